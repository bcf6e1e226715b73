/- Plain laws: Equal is symmetric; sums and products of equal expressions are equal. The law Keeps, walked. No condition. -/
import Derived.Test.YtlidibbdacohaaaR5
namespace Go.Proofs.Ytlidibbdacohaaa.R
section
open Go.RowKit Go.Proofs.Ytlidibbdacohaaa.PRingEquals Go.Proofs.YtlidibbdacohaaaW.PrintWords Go.Proofs.YtlidibbdacohaaaW.PrintLast Go.Proofs.YtlidibbdacohaaaW.PrintMore
set_option linter.unusedVariables false
set_option linter.unusedSimpArgs false

theorem EqR.symm {a b : S24} {r1 : Bool} {r2 : Int} (h : EqR a b r1 r2) : EqR b a r1 r2 := by
  rcases h with ⟨h, e1, e2⟩ | ⟨h1, h2, ra, rb, na, nb, h⟩
  · exact .inl ⟨fun k => h ⟨k.2, k.1⟩, e1, e2⟩
  · refine .inr ⟨h2, h1, rb, ra, nb, na, ?_⟩
    rcases h with ⟨h, e1, e2⟩ | ⟨x, y, e1, e2, e3, e4⟩
    · exact .inl ⟨h.symm, e1, e2⟩
    · exact .inr ⟨y, x, e2, e1, by rw [e3]; exact decide_eq_decide.2 ⟨Eq.symm, Eq.symm⟩, e4⟩
theorem EqR.true {a b : S24} {r2 : Int} (h : EqR a b true r2) : r2 = 0 ∧ Vd a ∧ Vd b ∧ ∃ x, Nr a (some x) ∧ Nr b (some x) := by
  rcases h with ⟨_, e1, _⟩ | ⟨h1, h2, ra, rb, na, nb, h⟩
  · cases e1
  · rcases h with ⟨_, e1, _⟩ | ⟨x, y, rfl, rfl, e3, e4⟩
    · cases e1
    · obtain rfl := of_decide_eq_true e3.symm
      exact ⟨e4, h1, h2, x, na, nb⟩
theorem nr_nfe {e : S24} {l : Po} (h : Fm e) (hn : Nr e (some l)) : NfE l := by
  obtain ⟨r, h1, h2, _⟩ := norm_all h
  exact h2 l (h1.det hn)
theorem insAll_comm {x y : Po} (hx : NfE x) (hy : NfE y) : insAll x y = insAll y x := by
  have k1 : ∀ t ∈ y, t.1.length = 8 := fun t h => hy.nf.len t h
  have k2 : ∀ t ∈ x, t.1.length = 8 := fun t h => hx.nf.len t h
  refine Nf.ext (insAll_nf k1 hy.nf.pos hx.nf) (insAll_nf k2 hx.nf.pos hy.nf) (fun e => ?_)
  rw [insAll_co k1 hy.nf.pos e hx.nf, insAll_co k2 hx.nf.pos e hy.nf]
  omega
theorem addF_comm {x y : Po} (hx : NfE x) (hy : NfE y) : addF x y = addF y x := by
  have e := insAll_comm hx hy
  rcases addF_cases hx hy with ⟨h1, h2⟩ | ⟨h1, h2⟩
  · rcases addF_cases hy hx with ⟨k1, k2⟩ | ⟨k1, k2⟩
    · rw [h2, k2, e]
    · exact absurd (e ▸ h1) k1
  · rcases addF_cases hy hx with ⟨k1, k2⟩ | ⟨k1, k2⟩
    · exact absurd (e ▸ k1) h1
    · rw [h2, k2]
theorem addE_comm : ∀ (a b : Ex), addE a b = addE b a
  | [], [] => rfl
  | [], _ :: _ => rfl
  | _ :: _, [] => rfl
  | x :: a, y :: b => by
    have := addE_comm a b
    unfold addE at this ⊢
    simp only [List.zipWith_cons_cons, this, Int.add_comm]
theorem mulT_comm (p q : Ex × Int) : mulT p q = mulT q p := by
  unfold mulT
  rw [addE_comm, Int.mul_comm]
theorem sum_add (f g : Ex × Int → Int) : ∀ l : Po, sumOver (fun t => f t + g t) l = sumOver f l + sumOver g l
  | [] => rfl
  | t :: l => by
    simp only [sumOver]
    rw [sum_add f g l]
    omega
theorem sum_zero : ∀ l : Po, sumOver (fun _ => 0) l = 0
  | [] => rfl
  | t :: l => by simp only [sumOver]; rw [sum_zero l]; rfl
theorem sum_swap (f : Ex × Int → Ex × Int → Int) (y : Po) : ∀ x : Po, sumOver (fun p => sumOver (fun q => f p q) y) x = sumOver (fun q => sumOver (fun p => f p q) x) y
  | [] => by
    simp only [sumOver]
    exact (sum_zero y).symm
  | p :: x => by
    simp only [sumOver]
    rw [sum_swap f y x, sum_add]
theorem prod_comm {x y : Po} (hx : NfE x) (hy : NfE y) : insAll [] (prodT x y) = insAll [] (prodT y x) := by
  refine Nf.ext (prod_nf hx.nf hy.nf) (prod_nf hy.nf hx.nf) (fun e => ?_)
  rw [prod_co hx.nf hy.nf, prod_co hy.nf hx.nf]
  unfold rowS
  rw [sum_swap]
  congr 1
  funext q
  congr 1
  funext p
  rw [mulT_comm]
theorem terms_comm {x y : Po} (h : ∀ t ∈ prodT x y, TermOk t) : ∀ t ∈ prodT y x, TermOk t := fun t ht => by
  obtain ⟨p, hp, q, hq, rfl⟩ := prodT_mem.1 ht
  rw [mulT_comm]
  exact h _ (prodT_mem.2 ⟨q, hq, p, hp, rfl⟩)
theorem mulF_comm {x y : Po} (hx : NfE x) (hy : NfE y) : mulF x y = mulF y x := by
  have e := prod_comm hx hy
  rcases mulF_cases hx hy with ⟨h0, h1, h2⟩ | ⟨h1, h2⟩
  · rcases mulF_cases hy hx with ⟨k0, k1, k2⟩ | ⟨k1, k2⟩
    · rw [h2, k2, e]
    · exact absurd ⟨terms_comm h0, e ▸ h1⟩ k1
  · rcases mulF_cases hy hx with ⟨k0, k1, k2⟩ | ⟨k1, k2⟩
    · exact absurd ⟨terms_comm k0, e ▸ k1⟩ h1
    · rw [h2, k2]
theorem keeps_add {a b c : S24} (h : EqR a b true 0) {s : Bool} {g : Int} (k : EqR ⟨3, 0, [a, c]⟩ ⟨3, 0, [c, b]⟩ s g) : s = true ∨ g ≠ 0 := by
  obtain ⟨_, va, vb, x, na, nb⟩ := h.true
  rcases k with ⟨_, _, rfl⟩ | ⟨v1, v2, r1, r2, n1, n2, k⟩
  · exact .inr (by decide)
  · rcases k with ⟨_, _, rfl⟩ | ⟨x2, y2, rfl, rfl, e3, _⟩
    · exact .inr (by decide)
    · left
      have hc : Fm c := by
        have := v1.2.2
        rw [fm_inv] at this
        rcases this with ⟨h, _⟩ | ⟨h, _⟩ | ⟨_, _, a2, b2, e, _, h⟩
        · exact absurd h (by decide)
        · exact absurd h (by decide)
        · injection e with e1 e2
          injection e2 with e2
          subst e2
          exact h
      rw [e3]
      refine decide_eq_true ?_
      generalize hr1 : some x2 = r1 at n1
      generalize hr2 : some y2 = r2 at n2
      cases n1 with
      | left => cases hr1
      | right => cases hr1
      | @add _ _ x3 z3 m1 m2 =>
        cases n2 with
        | left => cases hr2
        | right => cases hr2
        | @add _ _ z4 y4 m3 m4 =>
          have q1 := na.det m1
          have q2 := nb.det m4
          have q3 := m2.det m3
          cases q1
          cases q2
          cases q3
          have := addF_comm (nr_nfe va.2.2 na) (nr_nfe hc m2)
          rw [← hr1, ← hr2] at this
          exact Option.some.inj this
theorem keeps_mul {a b c : S24} (h : EqR a b true 0) {s : Bool} {g : Int} (k : EqR ⟨4, 0, [c, a]⟩ ⟨4, 0, [b, c]⟩ s g) : s = true ∨ g ≠ 0 := by
  obtain ⟨_, va, vb, x, na, nb⟩ := h.true
  rcases k with ⟨_, _, rfl⟩ | ⟨v1, v2, r1, r2, n1, n2, k⟩
  · exact .inr (by decide)
  · rcases k with ⟨_, _, rfl⟩ | ⟨x2, y2, rfl, rfl, e3, _⟩
    · exact .inr (by decide)
    · left
      have hc : Fm c := by
        have := v1.2.2
        rw [fm_inv] at this
        rcases this with ⟨h, _⟩ | ⟨h, _⟩ | ⟨_, _, a2, b2, e, h, _⟩
        · exact absurd h (by decide)
        · exact absurd h (by decide)
        · injection e with e1 e2
          subst e1
          exact h
      rw [e3]
      refine decide_eq_true ?_
      generalize hr1 : some x2 = r1 at n1
      generalize hr2 : some y2 = r2 at n2
      cases n1 with
      | left => cases hr1
      | right => cases hr1
      | @mul _ _ z3 x3 m1 m2 =>
        cases n2 with
        | left => cases hr2
        | right => cases hr2
        | @mul _ _ y4 z4 m3 m4 =>
          have q1 := na.det m2
          have q2 := nb.det m3
          have q3 := m1.det m4
          cases q1
          cases q2
          cases q3
          have := mulF_comm (nr_nfe hc m1) (nr_nfe va.2.2 na)
          rw [← hr1, ← hr2] at this
          exact Option.some.inj this
end
section
open Go.RowKit Go.Maps Go.ChangeShapes Go.WideShapes Go.Proofs.Ytlidibbdacohaaa.PRingEquals Go.Proofs.YtlidibbdacohaaaW.PrintWords Go.Proofs.YtlidibbdacohaaaW.PrintLast Go.Proofs.YtlidibbdacohaaaW.PrintMore
set_option linter.unusedVariables false
set_option linter.unusedSimpArgs false

/-- Three blocks that hold the arguments. -/
structure Bx3 (w W : World) (ca cb cc : Array Value) : Prop where
  below : Below w.heap.size w W
  g1 : W.heap[w.heap.size]? = some (.cells ca 24 (0, 0))
  g2 : W.heap[w.heap.size + 1]? = some (.cells cb 24 (0, 0))
  g3 : W.heap[w.heap.size + 1 + 1]? = some (.cells cc 24 (0, 0))
theorem Bx3.go {w W W2 : World} {ca cb cc : Array Value} (h : Bx3 w W ca cb cc) (hb : Below W.heap.size W W2) : Bx3 w W2 ca cb cc := ⟨below_step h.below hb, blk_below h.g1 hb, blk_below h.g2 hb, blk_below h.g3 hb⟩
theorem Bx3.drew {w W : World} {ca cb cc : Array Value} (h : Bx3 w W ca cb cc) : Bx3 w W.drew ca cb cc := h.go (below_drew (Below.refl _ _))
theorem Bx3.start (w : World) (ca cb cc : Array Value) : Bx3 w (((w.alloc (.cells ca 24)).alloc (.cells cb 24)).alloc (.cells cc 24)) ca cb cc := by
  have h := Bx.start w ca cb
  have e0 : ((w.alloc (.cells ca 24)).alloc (.cells cb 24)).heap.size = w.heap.size + 1 + 1 := by rw [World.size_alloc, World.size_alloc]
  have h3 := blk_new ((w.alloc (.cells ca 24)).alloc (.cells cb 24)) (.cells cc 24)
  rw [e0] at h3
  have hb := below_alloc (Below.refl ((w.alloc (.cells ca 24)).alloc (.cells cb 24)).heap.size ((w.alloc (.cells ca 24)).alloc (.cells cb 24))) (.cells cc 24)
  exact ⟨below_step h.below hb, blk_below h.g1 hb, blk_below h.g2 hb, h3⟩
theorem big_S (x : S24) {S : Nat → Prop} {cx : Array Value} {w : World} (h : Sm w S x cx) : Calls Try.prog 15 #[.agg cx] w fun e w' => e = .returned (.bool (decide (nod x > 400))) ∧ Below w.heap.size w w' := by
  obtain ⟨A, c, rfl, hc, hA⟩ := h
  exact big_calls x A c w (Kd.F_now hA) hc
theorem nod_two (op n : Int) (a b : S24) : nod ⟨op, n, [a, b]⟩ = nod a + nod b + 1 := by
  rw [nod_eq, nods_cons, nods_cons, nods_nil]
  rfl
set_option maxRecDepth 100000 in
set_option maxHeartbeats 8000000 in
theorem keeps_S (w : World) (a b c : S24) (ca cb cc : Array Value) (S : Nat → Prop) (ha : Sm w S a ca) (hb : Sm w S b cb) (hc : Sm w S c cc) :
    Calls Try.prog 4 #[.agg ca, .agg cb, .agg cc] w fun e w' => e = .returned (.bool true) ∧ Below w.heap.size w w' := by
  have B2 := Aside0.mk (Bx3.start w ca cb cc)
  have Sa := Aside0.mk (fun W (h : Below w.heap.size w W) => ha.below h)
  have Sb := Aside0.mk (fun W (h : Below w.heap.size w W) => hb.below h)
  have Sc := Aside0.mk (fun W (h : Below w.heap.size w W) => hc.below h)
  have Hca := Aside0.mk ha.size
  have Hcb := Aside0.mk hb.size
  have Hcc := Aside0.mk hc.size
  have HGa := Aside0.mk (fun {S : Nat → Prop} {cx : Array Value} {w : World} (h : Sm w S a cx) => big_S a h)
  have HGb := Aside0.mk (fun {S : Nat → Prop} {cx : Array Value} {w : World} (h : Sm w S b cx) => big_S b h)
  have HGc := Aside0.mk (fun {S : Nat → Prop} {cx : Array Value} {w : World} (h : Sm w S c cx) => big_S c h)
  clear ha hb hc
  go_enter Try.func4, Try.ntmps4
  by_cases h1 : nod a > 400
  · rw [decide_eq_true h1] at HGa
    clear h1
    go_wp2_with (first | ((with_reducible refine gate_load (t := 24) (x := .tmp 3) rfl ?_); refine run_law (by rfl) (.agg ca) (load_run (ty := 24) (x := .tmp 3) (b := w.heap.size) (t := 24) (cs := ca) ?h1 ?h2 B2.out.g1 ?h3 Try.underlying24 ?h4) ?_; (case h1 => rfl); (case h2 => rfl); (case h3 => rfl); (case h4 => rw [Hca.out]; kernel_rfl)) | ((with_reducible refine gate_load (t := 24) (x := .tmp 4) rfl ?_); refine run_law (by rfl) (.agg cb) (load_run (ty := 24) (x := .tmp 4) (b := w.heap.size + 1) (t := 24) (cs := cb) ?h1 ?h2 B2.out.g2 ?h3 Try.underlying24 ?h4) ?_; (case h1 => rfl); (case h2 => rfl); (case h3 => rfl); (case h4 => rw [Hcb.out]; kernel_rfl)) | ((with_reducible refine gate_load (t := 24) (x := .tmp 5) rfl ?_); refine run_law (by rfl) (.agg cc) (load_run (ty := 24) (x := .tmp 5) (b := w.heap.size + 1 + 1) (t := 24) (cs := cc) ?h1 ?h2 B2.out.g3 ?h3 Try.underlying24 ?h4) ?_; (case h1 => rfl); (case h2 => rfl); (case h3 => rfl); (case h4 => rw [Hcc.out]; kernel_rfl)) | (go_at_call 59; skip))
    refine (HGa.out (Sa.out _ B2.out.below)).mono ?_
    rintro e w5 ⟨rfl, hb5⟩
    have B3 := Aside0.mk (B2.out.go hb5)
    clear hb5
    go_wp2_with (first | ((with_reducible refine gate_load (t := 24) (x := .tmp 3) rfl ?_); refine run_law (by rfl) (.agg ca) (load_run (ty := 24) (x := .tmp 3) (b := w.heap.size) (t := 24) (cs := ca) ?h1 ?h2 B3.out.g1 ?h3 Try.underlying24 ?h4) ?_; (case h1 => rfl); (case h2 => rfl); (case h3 => rfl); (case h4 => rw [Hca.out]; kernel_rfl)) | ((with_reducible refine gate_load (t := 24) (x := .tmp 4) rfl ?_); refine run_law (by rfl) (.agg cb) (load_run (ty := 24) (x := .tmp 4) (b := w.heap.size + 1) (t := 24) (cs := cb) ?h1 ?h2 B3.out.g2 ?h3 Try.underlying24 ?h4) ?_; (case h1 => rfl); (case h2 => rfl); (case h3 => rfl); (case h4 => rw [Hcb.out]; kernel_rfl)) | ((with_reducible refine gate_load (t := 24) (x := .tmp 5) rfl ?_); refine run_law (by rfl) (.agg cc) (load_run (ty := 24) (x := .tmp 5) (b := w.heap.size + 1 + 1) (t := 24) (cs := cc) ?h1 ?h2 B3.out.g3 ?h3 Try.underlying24 ?h4) ?_; (case h1 => rfl); (case h2 => rfl); (case h3 => rfl); (case h4 => rw [Hcc.out]; kernel_rfl)) | (go_at_call 59; skip))
    refine (awake_calls _).mono ?_
    rintro e w9 ⟨rfl, hb9⟩
    have B9 := Aside0.mk (B3.out.go hb9)
    clear hb9
    go_wp2
    go_ret
    exact ⟨rfl, B9.out.below⟩
  · rw [decide_eq_false h1] at HGa
    by_cases h2 : nod b > 400
    · rw [decide_eq_true h2] at HGb
      clear h1 h2
      go_wp2_with (first | ((with_reducible refine gate_load (t := 24) (x := .tmp 3) rfl ?_); refine run_law (by rfl) (.agg ca) (load_run (ty := 24) (x := .tmp 3) (b := w.heap.size) (t := 24) (cs := ca) ?h1 ?h2 B2.out.g1 ?h3 Try.underlying24 ?h4) ?_; (case h1 => rfl); (case h2 => rfl); (case h3 => rfl); (case h4 => rw [Hca.out]; kernel_rfl)) | ((with_reducible refine gate_load (t := 24) (x := .tmp 4) rfl ?_); refine run_law (by rfl) (.agg cb) (load_run (ty := 24) (x := .tmp 4) (b := w.heap.size + 1) (t := 24) (cs := cb) ?h1 ?h2 B2.out.g2 ?h3 Try.underlying24 ?h4) ?_; (case h1 => rfl); (case h2 => rfl); (case h3 => rfl); (case h4 => rw [Hcb.out]; kernel_rfl)) | ((with_reducible refine gate_load (t := 24) (x := .tmp 5) rfl ?_); refine run_law (by rfl) (.agg cc) (load_run (ty := 24) (x := .tmp 5) (b := w.heap.size + 1 + 1) (t := 24) (cs := cc) ?h1 ?h2 B2.out.g3 ?h3 Try.underlying24 ?h4) ?_; (case h1 => rfl); (case h2 => rfl); (case h3 => rfl); (case h4 => rw [Hcc.out]; kernel_rfl)) | (go_at_call 59; skip))
      refine (HGa.out (Sa.out _ B2.out.below)).mono ?_
      rintro e w5 ⟨rfl, hb5⟩
      have B3 := Aside0.mk (B2.out.go hb5)
      clear hb5
      go_wp2_with (first | ((with_reducible refine gate_load (t := 24) (x := .tmp 3) rfl ?_); refine run_law (by rfl) (.agg ca) (load_run (ty := 24) (x := .tmp 3) (b := w.heap.size) (t := 24) (cs := ca) ?h1 ?h2 B3.out.g1 ?h3 Try.underlying24 ?h4) ?_; (case h1 => rfl); (case h2 => rfl); (case h3 => rfl); (case h4 => rw [Hca.out]; kernel_rfl)) | ((with_reducible refine gate_load (t := 24) (x := .tmp 4) rfl ?_); refine run_law (by rfl) (.agg cb) (load_run (ty := 24) (x := .tmp 4) (b := w.heap.size + 1) (t := 24) (cs := cb) ?h1 ?h2 B3.out.g2 ?h3 Try.underlying24 ?h4) ?_; (case h1 => rfl); (case h2 => rfl); (case h3 => rfl); (case h4 => rw [Hcb.out]; kernel_rfl)) | ((with_reducible refine gate_load (t := 24) (x := .tmp 5) rfl ?_); refine run_law (by rfl) (.agg cc) (load_run (ty := 24) (x := .tmp 5) (b := w.heap.size + 1 + 1) (t := 24) (cs := cc) ?h1 ?h2 B3.out.g3 ?h3 Try.underlying24 ?h4) ?_; (case h1 => rfl); (case h2 => rfl); (case h3 => rfl); (case h4 => rw [Hcc.out]; kernel_rfl)) | (go_at_call 59; skip))
      refine (HGb.out (Sb.out _ B3.out.below)).mono ?_
      rintro e w5 ⟨rfl, hb5⟩
      have B4 := Aside0.mk (B3.out.go hb5)
      clear hb5
      go_wp2_with (first | ((with_reducible refine gate_load (t := 24) (x := .tmp 3) rfl ?_); refine run_law (by rfl) (.agg ca) (load_run (ty := 24) (x := .tmp 3) (b := w.heap.size) (t := 24) (cs := ca) ?h1 ?h2 B4.out.g1 ?h3 Try.underlying24 ?h4) ?_; (case h1 => rfl); (case h2 => rfl); (case h3 => rfl); (case h4 => rw [Hca.out]; kernel_rfl)) | ((with_reducible refine gate_load (t := 24) (x := .tmp 4) rfl ?_); refine run_law (by rfl) (.agg cb) (load_run (ty := 24) (x := .tmp 4) (b := w.heap.size + 1) (t := 24) (cs := cb) ?h1 ?h2 B4.out.g2 ?h3 Try.underlying24 ?h4) ?_; (case h1 => rfl); (case h2 => rfl); (case h3 => rfl); (case h4 => rw [Hcb.out]; kernel_rfl)) | ((with_reducible refine gate_load (t := 24) (x := .tmp 5) rfl ?_); refine run_law (by rfl) (.agg cc) (load_run (ty := 24) (x := .tmp 5) (b := w.heap.size + 1 + 1) (t := 24) (cs := cc) ?h1 ?h2 B4.out.g3 ?h3 Try.underlying24 ?h4) ?_; (case h1 => rfl); (case h2 => rfl); (case h3 => rfl); (case h4 => rw [Hcc.out]; kernel_rfl)) | (go_at_call 59; skip))
      refine (awake_calls _).mono ?_
      rintro e w9 ⟨rfl, hb9⟩
      have B9 := Aside0.mk (B4.out.go hb9)
      clear hb9
      go_wp2
      go_ret
      exact ⟨rfl, B9.out.below⟩
    · rw [decide_eq_false h2] at HGb
      by_cases h3 : nod c > 400
      · rw [decide_eq_true h3] at HGc
        clear h1 h2 h3
        go_wp2_with (first | ((with_reducible refine gate_load (t := 24) (x := .tmp 3) rfl ?_); refine run_law (by rfl) (.agg ca) (load_run (ty := 24) (x := .tmp 3) (b := w.heap.size) (t := 24) (cs := ca) ?h1 ?h2 B2.out.g1 ?h3 Try.underlying24 ?h4) ?_; (case h1 => rfl); (case h2 => rfl); (case h3 => rfl); (case h4 => rw [Hca.out]; kernel_rfl)) | ((with_reducible refine gate_load (t := 24) (x := .tmp 4) rfl ?_); refine run_law (by rfl) (.agg cb) (load_run (ty := 24) (x := .tmp 4) (b := w.heap.size + 1) (t := 24) (cs := cb) ?h1 ?h2 B2.out.g2 ?h3 Try.underlying24 ?h4) ?_; (case h1 => rfl); (case h2 => rfl); (case h3 => rfl); (case h4 => rw [Hcb.out]; kernel_rfl)) | ((with_reducible refine gate_load (t := 24) (x := .tmp 5) rfl ?_); refine run_law (by rfl) (.agg cc) (load_run (ty := 24) (x := .tmp 5) (b := w.heap.size + 1 + 1) (t := 24) (cs := cc) ?h1 ?h2 B2.out.g3 ?h3 Try.underlying24 ?h4) ?_; (case h1 => rfl); (case h2 => rfl); (case h3 => rfl); (case h4 => rw [Hcc.out]; kernel_rfl)) | (go_at_call 59; skip))
        refine (HGa.out (Sa.out _ B2.out.below)).mono ?_
        rintro e w5 ⟨rfl, hb5⟩
        have B3 := Aside0.mk (B2.out.go hb5)
        clear hb5
        go_wp2_with (first | ((with_reducible refine gate_load (t := 24) (x := .tmp 3) rfl ?_); refine run_law (by rfl) (.agg ca) (load_run (ty := 24) (x := .tmp 3) (b := w.heap.size) (t := 24) (cs := ca) ?h1 ?h2 B3.out.g1 ?h3 Try.underlying24 ?h4) ?_; (case h1 => rfl); (case h2 => rfl); (case h3 => rfl); (case h4 => rw [Hca.out]; kernel_rfl)) | ((with_reducible refine gate_load (t := 24) (x := .tmp 4) rfl ?_); refine run_law (by rfl) (.agg cb) (load_run (ty := 24) (x := .tmp 4) (b := w.heap.size + 1) (t := 24) (cs := cb) ?h1 ?h2 B3.out.g2 ?h3 Try.underlying24 ?h4) ?_; (case h1 => rfl); (case h2 => rfl); (case h3 => rfl); (case h4 => rw [Hcb.out]; kernel_rfl)) | ((with_reducible refine gate_load (t := 24) (x := .tmp 5) rfl ?_); refine run_law (by rfl) (.agg cc) (load_run (ty := 24) (x := .tmp 5) (b := w.heap.size + 1 + 1) (t := 24) (cs := cc) ?h1 ?h2 B3.out.g3 ?h3 Try.underlying24 ?h4) ?_; (case h1 => rfl); (case h2 => rfl); (case h3 => rfl); (case h4 => rw [Hcc.out]; kernel_rfl)) | (go_at_call 59; skip))
        refine (HGb.out (Sb.out _ B3.out.below)).mono ?_
        rintro e w5 ⟨rfl, hb5⟩
        have B4 := Aside0.mk (B3.out.go hb5)
        clear hb5
        go_wp2_with (first | ((with_reducible refine gate_load (t := 24) (x := .tmp 3) rfl ?_); refine run_law (by rfl) (.agg ca) (load_run (ty := 24) (x := .tmp 3) (b := w.heap.size) (t := 24) (cs := ca) ?h1 ?h2 B4.out.g1 ?h3 Try.underlying24 ?h4) ?_; (case h1 => rfl); (case h2 => rfl); (case h3 => rfl); (case h4 => rw [Hca.out]; kernel_rfl)) | ((with_reducible refine gate_load (t := 24) (x := .tmp 4) rfl ?_); refine run_law (by rfl) (.agg cb) (load_run (ty := 24) (x := .tmp 4) (b := w.heap.size + 1) (t := 24) (cs := cb) ?h1 ?h2 B4.out.g2 ?h3 Try.underlying24 ?h4) ?_; (case h1 => rfl); (case h2 => rfl); (case h3 => rfl); (case h4 => rw [Hcb.out]; kernel_rfl)) | ((with_reducible refine gate_load (t := 24) (x := .tmp 5) rfl ?_); refine run_law (by rfl) (.agg cc) (load_run (ty := 24) (x := .tmp 5) (b := w.heap.size + 1 + 1) (t := 24) (cs := cc) ?h1 ?h2 B4.out.g3 ?h3 Try.underlying24 ?h4) ?_; (case h1 => rfl); (case h2 => rfl); (case h3 => rfl); (case h4 => rw [Hcc.out]; kernel_rfl)) | (go_at_call 59; skip))
        refine (HGc.out (Sc.out _ B4.out.below)).mono ?_
        rintro e w5 ⟨rfl, hb5⟩
        have B5 := Aside0.mk (B4.out.go hb5)
        clear hb5
        go_wp2_with (first | ((with_reducible refine gate_load (t := 24) (x := .tmp 3) rfl ?_); refine run_law (by rfl) (.agg ca) (load_run (ty := 24) (x := .tmp 3) (b := w.heap.size) (t := 24) (cs := ca) ?h1 ?h2 B5.out.g1 ?h3 Try.underlying24 ?h4) ?_; (case h1 => rfl); (case h2 => rfl); (case h3 => rfl); (case h4 => rw [Hca.out]; kernel_rfl)) | ((with_reducible refine gate_load (t := 24) (x := .tmp 4) rfl ?_); refine run_law (by rfl) (.agg cb) (load_run (ty := 24) (x := .tmp 4) (b := w.heap.size + 1) (t := 24) (cs := cb) ?h1 ?h2 B5.out.g2 ?h3 Try.underlying24 ?h4) ?_; (case h1 => rfl); (case h2 => rfl); (case h3 => rfl); (case h4 => rw [Hcb.out]; kernel_rfl)) | ((with_reducible refine gate_load (t := 24) (x := .tmp 5) rfl ?_); refine run_law (by rfl) (.agg cc) (load_run (ty := 24) (x := .tmp 5) (b := w.heap.size + 1 + 1) (t := 24) (cs := cc) ?h1 ?h2 B5.out.g3 ?h3 Try.underlying24 ?h4) ?_; (case h1 => rfl); (case h2 => rfl); (case h3 => rfl); (case h4 => rw [Hcc.out]; kernel_rfl)) | (go_at_call 59; skip))
        refine (awake_calls _).mono ?_
        rintro e w9 ⟨rfl, hb9⟩
        have B9 := Aside0.mk (B5.out.go hb9)
        clear hb9
        go_wp2
        go_ret
        exact ⟨rfl, B9.out.below⟩
      · rw [decide_eq_false h3] at HGc
        obtain ⟨r1, r2, hr, ok1⟩ := equal_all a b (by omega) (by omega)
        obtain ⟨s1, s2, hs, ok2⟩ := equal_all b a (by omega) (by omega)
        obtain ⟨q1, q2⟩ := hr.symm.det hs
        subst q1 q2
        obtain ⟨t1, t2, ht, ok3⟩ := equal_all ⟨3, 0, [a, c]⟩ ⟨3, 0, [c, b]⟩ (by rw [nod_two]; omega) (by rw [nod_two]; omega)
        obtain ⟨u1, u2, hu, ok4⟩ := equal_all ⟨4, 0, [c, a]⟩ ⟨4, 0, [b, c]⟩ (by rw [nod_two]; omega) (by rw [nod_two]; omega)
        have E1 := Aside0.mk ok1
        have E2 := Aside0.mk ok2
        have E3 := Aside0.mk ok3
        have E4 := Aside0.mk ok4
        clear h1 h2 h3 ok1 ok2 ok3 ok4 hs
        cases r1 with
        | false =>
          clear hr ht hu
          go_wp2_with (first | ((with_reducible refine gate_load (t := 24) (x := .tmp 3) rfl ?_); refine run_law (by rfl) (.agg ca) (load_run (ty := 24) (x := .tmp 3) (b := w.heap.size) (t := 24) (cs := ca) ?h1 ?h2 B2.out.g1 ?h3 Try.underlying24 ?h4) ?_; (case h1 => rfl); (case h2 => rfl); (case h3 => rfl); (case h4 => rw [Hca.out]; kernel_rfl)) | ((with_reducible refine gate_load (t := 24) (x := .tmp 4) rfl ?_); refine run_law (by rfl) (.agg cb) (load_run (ty := 24) (x := .tmp 4) (b := w.heap.size + 1) (t := 24) (cs := cb) ?h1 ?h2 B2.out.g2 ?h3 Try.underlying24 ?h4) ?_; (case h1 => rfl); (case h2 => rfl); (case h3 => rfl); (case h4 => rw [Hcb.out]; kernel_rfl)) | ((with_reducible refine gate_load (t := 24) (x := .tmp 5) rfl ?_); refine run_law (by rfl) (.agg cc) (load_run (ty := 24) (x := .tmp 5) (b := w.heap.size + 1 + 1) (t := 24) (cs := cc) ?h1 ?h2 B2.out.g3 ?h3 Try.underlying24 ?h4) ?_; (case h1 => rfl); (case h2 => rfl); (case h3 => rfl); (case h4 => rw [Hcc.out]; kernel_rfl)) | (go_at_call 59; skip))
          refine (HGa.out (Sa.out _ B2.out.below)).mono ?_
          rintro e w5 ⟨rfl, hb5⟩
          have B3 := Aside0.mk (B2.out.go hb5)
          clear hb5
          go_wp2_with (first | ((with_reducible refine gate_load (t := 24) (x := .tmp 3) rfl ?_); refine run_law (by rfl) (.agg ca) (load_run (ty := 24) (x := .tmp 3) (b := w.heap.size) (t := 24) (cs := ca) ?h1 ?h2 B3.out.g1 ?h3 Try.underlying24 ?h4) ?_; (case h1 => rfl); (case h2 => rfl); (case h3 => rfl); (case h4 => rw [Hca.out]; kernel_rfl)) | ((with_reducible refine gate_load (t := 24) (x := .tmp 4) rfl ?_); refine run_law (by rfl) (.agg cb) (load_run (ty := 24) (x := .tmp 4) (b := w.heap.size + 1) (t := 24) (cs := cb) ?h1 ?h2 B3.out.g2 ?h3 Try.underlying24 ?h4) ?_; (case h1 => rfl); (case h2 => rfl); (case h3 => rfl); (case h4 => rw [Hcb.out]; kernel_rfl)) | ((with_reducible refine gate_load (t := 24) (x := .tmp 5) rfl ?_); refine run_law (by rfl) (.agg cc) (load_run (ty := 24) (x := .tmp 5) (b := w.heap.size + 1 + 1) (t := 24) (cs := cc) ?h1 ?h2 B3.out.g3 ?h3 Try.underlying24 ?h4) ?_; (case h1 => rfl); (case h2 => rfl); (case h3 => rfl); (case h4 => rw [Hcc.out]; kernel_rfl)) | (go_at_call 59; skip))
          refine (HGb.out (Sb.out _ B3.out.below)).mono ?_
          rintro e w5 ⟨rfl, hb5⟩
          have B4 := Aside0.mk (B3.out.go hb5)
          clear hb5
          go_wp2_with (first | ((with_reducible refine gate_load (t := 24) (x := .tmp 3) rfl ?_); refine run_law (by rfl) (.agg ca) (load_run (ty := 24) (x := .tmp 3) (b := w.heap.size) (t := 24) (cs := ca) ?h1 ?h2 B4.out.g1 ?h3 Try.underlying24 ?h4) ?_; (case h1 => rfl); (case h2 => rfl); (case h3 => rfl); (case h4 => rw [Hca.out]; kernel_rfl)) | ((with_reducible refine gate_load (t := 24) (x := .tmp 4) rfl ?_); refine run_law (by rfl) (.agg cb) (load_run (ty := 24) (x := .tmp 4) (b := w.heap.size + 1) (t := 24) (cs := cb) ?h1 ?h2 B4.out.g2 ?h3 Try.underlying24 ?h4) ?_; (case h1 => rfl); (case h2 => rfl); (case h3 => rfl); (case h4 => rw [Hcb.out]; kernel_rfl)) | ((with_reducible refine gate_load (t := 24) (x := .tmp 5) rfl ?_); refine run_law (by rfl) (.agg cc) (load_run (ty := 24) (x := .tmp 5) (b := w.heap.size + 1 + 1) (t := 24) (cs := cc) ?h1 ?h2 B4.out.g3 ?h3 Try.underlying24 ?h4) ?_; (case h1 => rfl); (case h2 => rfl); (case h3 => rfl); (case h4 => rw [Hcc.out]; kernel_rfl)) | (go_at_call 59; skip))
          refine (HGc.out (Sc.out _ B4.out.below)).mono ?_
          rintro e w5 ⟨rfl, hb5⟩
          have B5 := Aside0.mk (B4.out.go hb5)
          clear hb5
          go_wp2_with (first | ((with_reducible refine gate_load (t := 24) (x := .tmp 3) rfl ?_); refine run_law (by rfl) (.agg ca) (load_run (ty := 24) (x := .tmp 3) (b := w.heap.size) (t := 24) (cs := ca) ?h1 ?h2 B5.out.g1 ?h3 Try.underlying24 ?h4) ?_; (case h1 => rfl); (case h2 => rfl); (case h3 => rfl); (case h4 => rw [Hca.out]; kernel_rfl)) | ((with_reducible refine gate_load (t := 24) (x := .tmp 4) rfl ?_); refine run_law (by rfl) (.agg cb) (load_run (ty := 24) (x := .tmp 4) (b := w.heap.size + 1) (t := 24) (cs := cb) ?h1 ?h2 B5.out.g2 ?h3 Try.underlying24 ?h4) ?_; (case h1 => rfl); (case h2 => rfl); (case h3 => rfl); (case h4 => rw [Hcb.out]; kernel_rfl)) | ((with_reducible refine gate_load (t := 24) (x := .tmp 5) rfl ?_); refine run_law (by rfl) (.agg cc) (load_run (ty := 24) (x := .tmp 5) (b := w.heap.size + 1 + 1) (t := 24) (cs := cc) ?h1 ?h2 B5.out.g3 ?h3 Try.underlying24 ?h4) ?_; (case h1 => rfl); (case h2 => rfl); (case h3 => rfl); (case h4 => rw [Hcc.out]; kernel_rfl)) | (go_at_call 59; skip))
          refine (equal_S E1.out (Sa.out _ B5.out.below) (Sb.out _ B5.out.below)).mono ?_
          rintro e w5 ⟨rfl, hb5⟩
          have B6 := Aside0.mk (B5.out.go hb5)
          clear hb5
          go_wp2_with (first | ((with_reducible refine gate_load (t := 24) (x := .tmp 3) rfl ?_); refine run_law (by rfl) (.agg ca) (load_run (ty := 24) (x := .tmp 3) (b := w.heap.size) (t := 24) (cs := ca) ?h1 ?h2 B6.out.g1 ?h3 Try.underlying24 ?h4) ?_; (case h1 => rfl); (case h2 => rfl); (case h3 => rfl); (case h4 => rw [Hca.out]; kernel_rfl)) | ((with_reducible refine gate_load (t := 24) (x := .tmp 4) rfl ?_); refine run_law (by rfl) (.agg cb) (load_run (ty := 24) (x := .tmp 4) (b := w.heap.size + 1) (t := 24) (cs := cb) ?h1 ?h2 B6.out.g2 ?h3 Try.underlying24 ?h4) ?_; (case h1 => rfl); (case h2 => rfl); (case h3 => rfl); (case h4 => rw [Hcb.out]; kernel_rfl)) | ((with_reducible refine gate_load (t := 24) (x := .tmp 5) rfl ?_); refine run_law (by rfl) (.agg cc) (load_run (ty := 24) (x := .tmp 5) (b := w.heap.size + 1 + 1) (t := 24) (cs := cc) ?h1 ?h2 B6.out.g3 ?h3 Try.underlying24 ?h4) ?_; (case h1 => rfl); (case h2 => rfl); (case h3 => rfl); (case h4 => rw [Hcc.out]; kernel_rfl)) | (go_at_call 59; skip))
          refine (equal_S E2.out (Sb.out _ B6.out.below) (Sa.out _ B6.out.below)).mono ?_
          rintro e w5 ⟨rfl, hb5⟩
          have B7 := Aside0.mk (B6.out.go hb5)
          clear hb5
          go_wp2_with (first | ((with_reducible refine gate_load (t := 24) (x := .tmp 3) rfl ?_); refine run_law (by rfl) (.agg ca) (load_run (ty := 24) (x := .tmp 3) (b := w.heap.size) (t := 24) (cs := ca) ?h1 ?h2 B7.out.g1 ?h3 Try.underlying24 ?h4) ?_; (case h1 => rfl); (case h2 => rfl); (case h3 => rfl); (case h4 => rw [Hca.out]; kernel_rfl)) | ((with_reducible refine gate_load (t := 24) (x := .tmp 4) rfl ?_); refine run_law (by rfl) (.agg cb) (load_run (ty := 24) (x := .tmp 4) (b := w.heap.size + 1) (t := 24) (cs := cb) ?h1 ?h2 B7.out.g2 ?h3 Try.underlying24 ?h4) ?_; (case h1 => rfl); (case h2 => rfl); (case h3 => rfl); (case h4 => rw [Hcb.out]; kernel_rfl)) | ((with_reducible refine gate_load (t := 24) (x := .tmp 5) rfl ?_); refine run_law (by rfl) (.agg cc) (load_run (ty := 24) (x := .tmp 5) (b := w.heap.size + 1 + 1) (t := 24) (cs := cc) ?h1 ?h2 B7.out.g3 ?h3 Try.underlying24 ?h4) ?_; (case h1 => rfl); (case h2 => rfl); (case h3 => rfl); (case h4 => rw [Hcc.out]; kernel_rfl)) | (go_at_call 59; skip))
          refine (awake_calls _).mono ?_
          rintro e w9 ⟨rfl, hb9⟩
          have B9 := Aside0.mk (B7.out.go hb9)
          clear hb9
          go_wp2
          go_ret
          exact ⟨rfl, B9.out.below⟩
        | true =>
          obtain rfl := hr.true.1
          have HL1 := Aside0.mk (keeps_add hr ht)
          have HL2 := Aside0.mk (keeps_mul hr hu)
          clear hr ht hu
          go_wp2_with (first | ((with_reducible refine gate_load (t := 24) (x := .tmp 3) rfl ?_); refine run_law (by rfl) (.agg ca) (load_run (ty := 24) (x := .tmp 3) (b := w.heap.size) (t := 24) (cs := ca) ?h1 ?h2 B2.out.g1 ?h3 Try.underlying24 ?h4) ?_; (case h1 => rfl); (case h2 => rfl); (case h3 => rfl); (case h4 => rw [Hca.out]; kernel_rfl)) | ((with_reducible refine gate_load (t := 24) (x := .tmp 4) rfl ?_); refine run_law (by rfl) (.agg cb) (load_run (ty := 24) (x := .tmp 4) (b := w.heap.size + 1) (t := 24) (cs := cb) ?h1 ?h2 B2.out.g2 ?h3 Try.underlying24 ?h4) ?_; (case h1 => rfl); (case h2 => rfl); (case h3 => rfl); (case h4 => rw [Hcb.out]; kernel_rfl)) | ((with_reducible refine gate_load (t := 24) (x := .tmp 5) rfl ?_); refine run_law (by rfl) (.agg cc) (load_run (ty := 24) (x := .tmp 5) (b := w.heap.size + 1 + 1) (t := 24) (cs := cc) ?h1 ?h2 B2.out.g3 ?h3 Try.underlying24 ?h4) ?_; (case h1 => rfl); (case h2 => rfl); (case h3 => rfl); (case h4 => rw [Hcc.out]; kernel_rfl)) | (go_at_call 59; skip))
          refine (HGa.out (Sa.out _ B2.out.below)).mono ?_
          rintro e w5 ⟨rfl, hb5⟩
          have B3 := Aside0.mk (B2.out.go hb5)
          clear hb5
          go_wp2_with (first | ((with_reducible refine gate_load (t := 24) (x := .tmp 3) rfl ?_); refine run_law (by rfl) (.agg ca) (load_run (ty := 24) (x := .tmp 3) (b := w.heap.size) (t := 24) (cs := ca) ?h1 ?h2 B3.out.g1 ?h3 Try.underlying24 ?h4) ?_; (case h1 => rfl); (case h2 => rfl); (case h3 => rfl); (case h4 => rw [Hca.out]; kernel_rfl)) | ((with_reducible refine gate_load (t := 24) (x := .tmp 4) rfl ?_); refine run_law (by rfl) (.agg cb) (load_run (ty := 24) (x := .tmp 4) (b := w.heap.size + 1) (t := 24) (cs := cb) ?h1 ?h2 B3.out.g2 ?h3 Try.underlying24 ?h4) ?_; (case h1 => rfl); (case h2 => rfl); (case h3 => rfl); (case h4 => rw [Hcb.out]; kernel_rfl)) | ((with_reducible refine gate_load (t := 24) (x := .tmp 5) rfl ?_); refine run_law (by rfl) (.agg cc) (load_run (ty := 24) (x := .tmp 5) (b := w.heap.size + 1 + 1) (t := 24) (cs := cc) ?h1 ?h2 B3.out.g3 ?h3 Try.underlying24 ?h4) ?_; (case h1 => rfl); (case h2 => rfl); (case h3 => rfl); (case h4 => rw [Hcc.out]; kernel_rfl)) | (go_at_call 59; skip))
          refine (HGb.out (Sb.out _ B3.out.below)).mono ?_
          rintro e w5 ⟨rfl, hb5⟩
          have B4 := Aside0.mk (B3.out.go hb5)
          clear hb5
          go_wp2_with (first | ((with_reducible refine gate_load (t := 24) (x := .tmp 3) rfl ?_); refine run_law (by rfl) (.agg ca) (load_run (ty := 24) (x := .tmp 3) (b := w.heap.size) (t := 24) (cs := ca) ?h1 ?h2 B4.out.g1 ?h3 Try.underlying24 ?h4) ?_; (case h1 => rfl); (case h2 => rfl); (case h3 => rfl); (case h4 => rw [Hca.out]; kernel_rfl)) | ((with_reducible refine gate_load (t := 24) (x := .tmp 4) rfl ?_); refine run_law (by rfl) (.agg cb) (load_run (ty := 24) (x := .tmp 4) (b := w.heap.size + 1) (t := 24) (cs := cb) ?h1 ?h2 B4.out.g2 ?h3 Try.underlying24 ?h4) ?_; (case h1 => rfl); (case h2 => rfl); (case h3 => rfl); (case h4 => rw [Hcb.out]; kernel_rfl)) | ((with_reducible refine gate_load (t := 24) (x := .tmp 5) rfl ?_); refine run_law (by rfl) (.agg cc) (load_run (ty := 24) (x := .tmp 5) (b := w.heap.size + 1 + 1) (t := 24) (cs := cc) ?h1 ?h2 B4.out.g3 ?h3 Try.underlying24 ?h4) ?_; (case h1 => rfl); (case h2 => rfl); (case h3 => rfl); (case h4 => rw [Hcc.out]; kernel_rfl)) | (go_at_call 59; skip))
          refine (HGc.out (Sc.out _ B4.out.below)).mono ?_
          rintro e w5 ⟨rfl, hb5⟩
          have B5 := Aside0.mk (B4.out.go hb5)
          clear hb5
          go_wp2_with (first | ((with_reducible refine gate_load (t := 24) (x := .tmp 3) rfl ?_); refine run_law (by rfl) (.agg ca) (load_run (ty := 24) (x := .tmp 3) (b := w.heap.size) (t := 24) (cs := ca) ?h1 ?h2 B5.out.g1 ?h3 Try.underlying24 ?h4) ?_; (case h1 => rfl); (case h2 => rfl); (case h3 => rfl); (case h4 => rw [Hca.out]; kernel_rfl)) | ((with_reducible refine gate_load (t := 24) (x := .tmp 4) rfl ?_); refine run_law (by rfl) (.agg cb) (load_run (ty := 24) (x := .tmp 4) (b := w.heap.size + 1) (t := 24) (cs := cb) ?h1 ?h2 B5.out.g2 ?h3 Try.underlying24 ?h4) ?_; (case h1 => rfl); (case h2 => rfl); (case h3 => rfl); (case h4 => rw [Hcb.out]; kernel_rfl)) | ((with_reducible refine gate_load (t := 24) (x := .tmp 5) rfl ?_); refine run_law (by rfl) (.agg cc) (load_run (ty := 24) (x := .tmp 5) (b := w.heap.size + 1 + 1) (t := 24) (cs := cc) ?h1 ?h2 B5.out.g3 ?h3 Try.underlying24 ?h4) ?_; (case h1 => rfl); (case h2 => rfl); (case h3 => rfl); (case h4 => rw [Hcc.out]; kernel_rfl)) | (go_at_call 59; skip))
          refine (equal_S E1.out (Sa.out _ B5.out.below) (Sb.out _ B5.out.below)).mono ?_
          rintro e w5 ⟨rfl, hb5⟩
          have B6 := Aside0.mk (B5.out.go hb5)
          clear hb5
          go_wp2_with (first | ((with_reducible refine gate_load (t := 24) (x := .tmp 3) rfl ?_); refine run_law (by rfl) (.agg ca) (load_run (ty := 24) (x := .tmp 3) (b := w.heap.size) (t := 24) (cs := ca) ?h1 ?h2 B6.out.g1 ?h3 Try.underlying24 ?h4) ?_; (case h1 => rfl); (case h2 => rfl); (case h3 => rfl); (case h4 => rw [Hca.out]; kernel_rfl)) | ((with_reducible refine gate_load (t := 24) (x := .tmp 4) rfl ?_); refine run_law (by rfl) (.agg cb) (load_run (ty := 24) (x := .tmp 4) (b := w.heap.size + 1) (t := 24) (cs := cb) ?h1 ?h2 B6.out.g2 ?h3 Try.underlying24 ?h4) ?_; (case h1 => rfl); (case h2 => rfl); (case h3 => rfl); (case h4 => rw [Hcb.out]; kernel_rfl)) | ((with_reducible refine gate_load (t := 24) (x := .tmp 5) rfl ?_); refine run_law (by rfl) (.agg cc) (load_run (ty := 24) (x := .tmp 5) (b := w.heap.size + 1 + 1) (t := 24) (cs := cc) ?h1 ?h2 B6.out.g3 ?h3 Try.underlying24 ?h4) ?_; (case h1 => rfl); (case h2 => rfl); (case h3 => rfl); (case h4 => rw [Hcc.out]; kernel_rfl)) | (go_at_call 59; skip))
          refine (equal_S E2.out (Sb.out _ B6.out.below) (Sa.out _ B6.out.below)).mono ?_
          rintro e w5 ⟨rfl, hb5⟩
          have B7 := Aside0.mk (B6.out.go hb5)
          clear hb5
          go_wp2_with (first | ((with_reducible refine gate_load (t := 24) (x := .tmp 3) rfl ?_); refine run_law (by rfl) (.agg ca) (load_run (ty := 24) (x := .tmp 3) (b := w.heap.size) (t := 24) (cs := ca) ?h1 ?h2 B7.out.g1 ?h3 Try.underlying24 ?h4) ?_; (case h1 => rfl); (case h2 => rfl); (case h3 => rfl); (case h4 => rw [Hca.out]; kernel_rfl)) | ((with_reducible refine gate_load (t := 24) (x := .tmp 4) rfl ?_); refine run_law (by rfl) (.agg cb) (load_run (ty := 24) (x := .tmp 4) (b := w.heap.size + 1) (t := 24) (cs := cb) ?h1 ?h2 B7.out.g2 ?h3 Try.underlying24 ?h4) ?_; (case h1 => rfl); (case h2 => rfl); (case h3 => rfl); (case h4 => rw [Hcb.out]; kernel_rfl)) | ((with_reducible refine gate_load (t := 24) (x := .tmp 5) rfl ?_); refine run_law (by rfl) (.agg cc) (load_run (ty := 24) (x := .tmp 5) (b := w.heap.size + 1 + 1) (t := 24) (cs := cc) ?h1 ?h2 B7.out.g3 ?h3 Try.underlying24 ?h4) ?_; (case h1 => rfl); (case h2 => rfl); (case h3 => rfl); (case h4 => rw [Hcc.out]; kernel_rfl)) | (go_at_call 59; skip))
          refine start_ (n := 12) (S := fun w' => Bx3 w w' ca cb cc) (ds := []) #[false, false, false, false, false, false, false, false, false, false, false, false] (by kernel_rfl) rfl rfl (B7.out.drew) (fun hHeld => ?_)
          refine take_ (i := 0) (N := some 54) (v := ?_) (a' := ?_) #[true, false, false, false, false, false, false, false, false, false, false, false] rfl rfl (by kernel_rfl) (fun _ _ _ h => h) (Or.inl ⟨by rfl, ?_⟩) hHeld ?_ ?_
          rotate_left
          · rintro w' s0
            refine load_run (ty := 24) (x := .tmp 3) (b := w.heap.size) (t := 24) (cs := ca) ?h1 ?h2 s0.g1 ?h3 Try.underlying24 ?h4
            case h1 => rfl
            case h2 => rfl
            case h3 => rfl
            case h4 => rw [Hca.out]; kernel_rfl
          rotate_left
          · simp only [Act.put, List.setIfInBounds_toArray, List.set_cons_zero, List.set_cons_succ, i64_w, i32_w]
            rfl
          refine take_ (i := 1) (N := some 55) (v := ?_) (a' := ?_) #[true, true, false, false, false, false, false, false, false, false, false, false] rfl rfl (by kernel_rfl) (fun _ _ _ h => h) (Or.inl ⟨by rfl, ?_⟩) hHeld ?_ ?_
          rotate_left
          · rintro w' s0
            refine load_run (ty := 24) (x := .tmp 5) (b := w.heap.size + 1 + 1) (t := 24) (cs := cc) ?h1 ?h2 s0.g3 ?h3 Try.underlying24 ?h4
            case h1 => rfl
            case h2 => rfl
            case h3 => rfl
            case h4 => rw [Hcc.out]; kernel_rfl
          rotate_left
          · simp only [Act.put, List.setIfInBounds_toArray, List.set_cons_zero, List.set_cons_succ, i64_w, i32_w]
            rfl
          refine take_ (i := 3) (N := some 57) (v := ?_) (a' := ?_) #[true, true, false, true, false, false, false, false, false, false, false, false] rfl rfl (by kernel_rfl) (fun _ _ _ h => h) (Or.inl ⟨by rfl, ?_⟩) hHeld ?_ ?_
          rotate_left
          · rintro w' s0
            refine load_run (ty := 24) (x := .tmp 5) (b := w.heap.size + 1 + 1) (t := 24) (cs := cc) ?h1 ?h2 s0.g3 ?h3 Try.underlying24 ?h4
            case h1 => rfl
            case h2 => rfl
            case h3 => rfl
            case h4 => rw [Hcc.out]; kernel_rfl
          rotate_left
          · simp only [Act.put, List.setIfInBounds_toArray, List.set_cons_zero, List.set_cons_succ, i64_w, i32_w]
            rfl
          refine take_ (i := 4) (N := some 58) (v := ?_) (a' := ?_) #[true, true, false, true, true, false, false, false, false, false, false, false] rfl rfl (by kernel_rfl) (fun _ _ _ h => h) (Or.inl ⟨by rfl, ?_⟩) hHeld ?_ ?_
          rotate_left
          · rintro w' s0
            refine load_run (ty := 24) (x := .tmp 4) (b := w.heap.size + 1) (t := 24) (cs := cb) ?h1 ?h2 s0.g2 ?h3 Try.underlying24 ?h4
            case h1 => rfl
            case h2 => rfl
            case h3 => rfl
            case h4 => rw [Hcb.out]; kernel_rfl
          rotate_left
          · simp only [Act.put, List.setIfInBounds_toArray, List.set_cons_zero, List.set_cons_succ, i64_w, i32_w]
            rfl
          refine one_ (i := 2) (N := some 56) #[true, true, true, true, true, false, false, false, false, false, false, false] rfl rfl (by kernel_rfl) (by decide) (fun K hK => ?_)
          refine goes_ Try.func19 (by kernel_rfl) rfl #[.agg ca, .agg cc] (by rfl) rfl rfl (by (try simp only [List.map_toArray, List.map_cons, List.map_nil]); first | done | rfl) ?_
          refine (add_S (Sa.out _ hHeld.below) (Sc.out _ hHeld.below)).mono ?_
          rintro e2 w7 ⟨k1, rfl, hs7, hb7⟩
          refine ⟨_, rfl, ?_⟩
          refine hK.out _ _ (hHeld.go hb7) (fun hHeld2 => ?_)
          clear hK K
          have K1 := Aside0.mk hs7
          clear hs7 hb7 hHeld
          have hHeld := hHeld2
          clear hHeld2
          refine norm_ (a' := ?_) ?_ ?_
          rotate_left
          · show Act.put _ (some 56) _ = _
            simp only [Act.put, List.setIfInBounds_toArray, List.set_cons_zero, List.set_cons_succ, i64_w, i32_w]
            rfl
          refine one_ (i := 5) (N := some 59) #[true, true, true, true, true, true, false, false, false, false, false, false] rfl rfl (by kernel_rfl) (by decide) (fun K hK => ?_)
          refine goes_ Try.func19 (by kernel_rfl) rfl #[.agg cc, .agg cb] (by rfl) rfl rfl (by (try simp only [List.map_toArray, List.map_cons, List.map_nil]); first | done | rfl) ?_
          refine (add_S (Sc.out _ hHeld.below) (Sb.out _ hHeld.below)).mono ?_
          rintro e2 w8 ⟨k2, rfl, hs7, hb7⟩
          refine ⟨_, rfl, ?_⟩
          refine hK.out _ _ (hHeld.go hb7) (fun hHeld2 => ?_)
          clear hK K
          have K2 := Aside0.mk hs7
          have K3 := Aside0.mk (K1.out.below hb7)
          clear hs7 hb7 hHeld K1
          have hHeld := hHeld2
          clear hHeld2
          refine norm_ (a' := ?_) ?_ ?_
          rotate_left
          · show Act.put _ (some 59) _ = _
            simp only [Act.put, List.setIfInBounds_toArray, List.set_cons_zero, List.set_cons_succ, i64_w, i32_w]
            rfl
          refine one_ (i := 6) (N := some 60) #[true, true, true, true, true, true, true, false, false, false, false, false] rfl rfl (by kernel_rfl) (by decide) (fun K hK => ?_)
          refine goes_ Try.func17 (by kernel_rfl) rfl #[.agg k1, .agg k2] (by rfl) rfl rfl (by (try simp only [List.map_toArray, List.map_cons, List.map_nil]); first | done | rfl) ?_
          refine (equal_S E3.out K3.out K2.out).mono ?_
          rintro e2 w9 ⟨rfl, hb7⟩
          refine ⟨_, rfl, ?_⟩
          refine hK.out _ _ (hHeld.go hb7) (fun hHeld2 => ?_)
          clear hK K
          clear hb7 hHeld K2 K3
          have hHeld := hHeld2
          clear hHeld2
          refine norm_ (a' := ?_) ?_ ?_
          rotate_left
          · show Act.put _ (some 60) _ = _
            simp only [Act.put, List.setIfInBounds_toArray, List.set_cons_zero, List.set_cons_succ, i64_w, i32_w]
            rfl
          refine pure_ (i := 7) (N := some 53) (v := ?_) (a' := ?_) #[true, true, true, true, true, true, true, true, false, false, false, false] rfl rfl (by kernel_rfl) (fun _ _ _ h => h) (Or.inl ⟨by rfl, ?_⟩) ?_ ?_
          rotate_left
          · intro w'
            go_simp
            with_reducible rfl
          rotate_left
          · simp only [Act.put, List.setIfInBounds_toArray, List.set_cons_zero, List.set_cons_succ, i64_w, i32_w]
            rfl
          refine pure_ (i := 8) (N := some 61) (v := ?_) (a' := ?_) #[true, true, true, true, true, true, true, true, true, false, false, false] rfl rfl (by kernel_rfl) (fun _ _ _ h => h) (Or.inl ⟨by rfl, ?_⟩) ?_ ?_
          rotate_left
          · intro w'
            go_simp
            with_reducible rfl
          rotate_left
          · simp only [Act.put, List.setIfInBounds_toArray, List.set_cons_zero, List.set_cons_succ, i64_w, i32_w]
            rfl
          refine pure_ (i := 9) (N := some 62) (v := ?_) (a' := ?_) #[true, true, true, true, true, true, true, true, true, true, false, false] rfl rfl (by kernel_rfl) (fun _ _ _ h => h) (Or.inl ⟨by rfl, ?_⟩) ?_ ?_
          rotate_left
          · intro w'
            go_simp
            with_reducible rfl
          rotate_left
          · simp only [Act.put, List.setIfInBounds_toArray, List.set_cons_zero, List.set_cons_succ, i64_w, i32_w]
            rfl
          refine pure_ (i := 10) (N := some 11) (v := ?_) (a' := ?_) #[true, true, true, true, true, true, true, true, true, true, true, false] rfl rfl (by kernel_rfl) (fun _ _ _ h => h) (Or.inl ⟨by rfl, ?_⟩) ?_ ?_
          rotate_left
          · intro w'
            go_simp
            with_reducible rfl
          rotate_left
          · simp only [Act.put, List.setIfInBounds_toArray, List.set_cons_zero, List.set_cons_succ, i64_w, i32_w]
            rfl
          refine pure_ (i := 11) (N := some 12) (v := ?_) (a' := ?_) #[true, true, true, true, true, true, true, true, true, true, true, true] rfl rfl (by kernel_rfl) (fun _ _ _ h => h) (Or.inl ⟨by rfl, ?_⟩) ?_ ?_
          rotate_left
          · intro w'
            go_simp
            with_reducible rfl
          rotate_left
          · simp only [Act.put, List.setIfInBounds_toArray, List.set_cons_zero, List.set_cons_succ, i64_w, i32_w]
            rfl
          refine done_ (by kernel_rfl) ?_
          have B8 := Aside0.mk hHeld
          clear hHeld
          go_wp2_with (first | ((with_reducible refine gate_load (t := 24) (x := .tmp 3) rfl ?_); refine run_law (by rfl) (.agg ca) (load_run (ty := 24) (x := .tmp 3) (b := w.heap.size) (t := 24) (cs := ca) ?h1 ?h2 B8.out.g1 ?h3 Try.underlying24 ?h4) ?_; (case h1 => rfl); (case h2 => rfl); (case h3 => rfl); (case h4 => rw [Hca.out]; kernel_rfl)) | ((with_reducible refine gate_load (t := 24) (x := .tmp 4) rfl ?_); refine run_law (by rfl) (.agg cb) (load_run (ty := 24) (x := .tmp 4) (b := w.heap.size + 1) (t := 24) (cs := cb) ?h1 ?h2 B8.out.g2 ?h3 Try.underlying24 ?h4) ?_; (case h1 => rfl); (case h2 => rfl); (case h3 => rfl); (case h4 => rw [Hcb.out]; kernel_rfl)) | ((with_reducible refine gate_load (t := 24) (x := .tmp 5) rfl ?_); refine run_law (by rfl) (.agg cc) (load_run (ty := 24) (x := .tmp 5) (b := w.heap.size + 1 + 1) (t := 24) (cs := cc) ?h1 ?h2 B8.out.g3 ?h3 Try.underlying24 ?h4) ?_; (case h1 => rfl); (case h2 => rfl); (case h3 => rfl); (case h4 => rw [Hcc.out]; kernel_rfl)) | (go_at_call 59; skip))
          refine start_ (n := 12) (S := fun w' => Bx3 w w' ca cb cc) (ds := []) #[false, false, false, false, false, false, false, false, false, false, false, false] (by kernel_rfl) rfl rfl (B8.out.drew) (fun hHeld => ?_)
          refine take_ (i := 0) (N := some 64) (v := ?_) (a' := ?_) #[true, false, false, false, false, false, false, false, false, false, false, false] rfl rfl (by kernel_rfl) (fun _ _ _ h => h) (Or.inl ⟨by rfl, ?_⟩) hHeld ?_ ?_
          rotate_left
          · rintro w' s0
            refine load_run (ty := 24) (x := .tmp 5) (b := w.heap.size + 1 + 1) (t := 24) (cs := cc) ?h1 ?h2 s0.g3 ?h3 Try.underlying24 ?h4
            case h1 => rfl
            case h2 => rfl
            case h3 => rfl
            case h4 => rw [Hcc.out]; kernel_rfl
          rotate_left
          · simp only [Act.put, List.setIfInBounds_toArray, List.set_cons_zero, List.set_cons_succ, i64_w, i32_w]
            rfl
          refine take_ (i := 1) (N := some 65) (v := ?_) (a' := ?_) #[true, true, false, false, false, false, false, false, false, false, false, false] rfl rfl (by kernel_rfl) (fun _ _ _ h => h) (Or.inl ⟨by rfl, ?_⟩) hHeld ?_ ?_
          rotate_left
          · rintro w' s0
            refine load_run (ty := 24) (x := .tmp 3) (b := w.heap.size) (t := 24) (cs := ca) ?h1 ?h2 s0.g1 ?h3 Try.underlying24 ?h4
            case h1 => rfl
            case h2 => rfl
            case h3 => rfl
            case h4 => rw [Hca.out]; kernel_rfl
          rotate_left
          · simp only [Act.put, List.setIfInBounds_toArray, List.set_cons_zero, List.set_cons_succ, i64_w, i32_w]
            rfl
          refine take_ (i := 3) (N := some 67) (v := ?_) (a' := ?_) #[true, true, false, true, false, false, false, false, false, false, false, false] rfl rfl (by kernel_rfl) (fun _ _ _ h => h) (Or.inl ⟨by rfl, ?_⟩) hHeld ?_ ?_
          rotate_left
          · rintro w' s0
            refine load_run (ty := 24) (x := .tmp 4) (b := w.heap.size + 1) (t := 24) (cs := cb) ?h1 ?h2 s0.g2 ?h3 Try.underlying24 ?h4
            case h1 => rfl
            case h2 => rfl
            case h3 => rfl
            case h4 => rw [Hcb.out]; kernel_rfl
          rotate_left
          · simp only [Act.put, List.setIfInBounds_toArray, List.set_cons_zero, List.set_cons_succ, i64_w, i32_w]
            rfl
          refine take_ (i := 4) (N := some 68) (v := ?_) (a' := ?_) #[true, true, false, true, true, false, false, false, false, false, false, false] rfl rfl (by kernel_rfl) (fun _ _ _ h => h) (Or.inl ⟨by rfl, ?_⟩) hHeld ?_ ?_
          rotate_left
          · rintro w' s0
            refine load_run (ty := 24) (x := .tmp 5) (b := w.heap.size + 1 + 1) (t := 24) (cs := cc) ?h1 ?h2 s0.g3 ?h3 Try.underlying24 ?h4
            case h1 => rfl
            case h2 => rfl
            case h3 => rfl
            case h4 => rw [Hcc.out]; kernel_rfl
          rotate_left
          · simp only [Act.put, List.setIfInBounds_toArray, List.set_cons_zero, List.set_cons_succ, i64_w, i32_w]
            rfl
          refine one_ (i := 2) (N := some 66) #[true, true, true, true, true, false, false, false, false, false, false, false] rfl rfl (by kernel_rfl) (by decide) (fun K hK => ?_)
          refine goes_ Try.func20 (by kernel_rfl) rfl #[.agg cc, .agg ca] (by rfl) rfl rfl (by (try simp only [List.map_toArray, List.map_cons, List.map_nil]); first | done | rfl) ?_
          refine (mul_S (Sc.out _ hHeld.below) (Sa.out _ hHeld.below)).mono ?_
          rintro e2 w7 ⟨k1, rfl, hs7, hb7⟩
          refine ⟨_, rfl, ?_⟩
          refine hK.out _ _ (hHeld.go hb7) (fun hHeld2 => ?_)
          clear hK K
          have K1 := Aside0.mk hs7
          clear hs7 hb7 hHeld
          have hHeld := hHeld2
          clear hHeld2
          refine norm_ (a' := ?_) ?_ ?_
          rotate_left
          · show Act.put _ (some 66) _ = _
            simp only [Act.put, List.setIfInBounds_toArray, List.set_cons_zero, List.set_cons_succ, i64_w, i32_w]
            rfl
          refine one_ (i := 5) (N := some 69) #[true, true, true, true, true, true, false, false, false, false, false, false] rfl rfl (by kernel_rfl) (by decide) (fun K hK => ?_)
          refine goes_ Try.func20 (by kernel_rfl) rfl #[.agg cb, .agg cc] (by rfl) rfl rfl (by (try simp only [List.map_toArray, List.map_cons, List.map_nil]); first | done | rfl) ?_
          refine (mul_S (Sb.out _ hHeld.below) (Sc.out _ hHeld.below)).mono ?_
          rintro e2 w8 ⟨k2, rfl, hs7, hb7⟩
          refine ⟨_, rfl, ?_⟩
          refine hK.out _ _ (hHeld.go hb7) (fun hHeld2 => ?_)
          clear hK K
          have K2 := Aside0.mk hs7
          have K3 := Aside0.mk (K1.out.below hb7)
          clear hs7 hb7 hHeld K1
          have hHeld := hHeld2
          clear hHeld2
          refine norm_ (a' := ?_) ?_ ?_
          rotate_left
          · show Act.put _ (some 69) _ = _
            simp only [Act.put, List.setIfInBounds_toArray, List.set_cons_zero, List.set_cons_succ, i64_w, i32_w]
            rfl
          refine one_ (i := 6) (N := some 70) #[true, true, true, true, true, true, true, false, false, false, false, false] rfl rfl (by kernel_rfl) (by decide) (fun K hK => ?_)
          refine goes_ Try.func17 (by kernel_rfl) rfl #[.agg k1, .agg k2] (by rfl) rfl rfl (by (try simp only [List.map_toArray, List.map_cons, List.map_nil]); first | done | rfl) ?_
          refine (equal_S E4.out K3.out K2.out).mono ?_
          rintro e2 w9 ⟨rfl, hb7⟩
          refine ⟨_, rfl, ?_⟩
          refine hK.out _ _ (hHeld.go hb7) (fun hHeld2 => ?_)
          clear hK K
          clear hb7 hHeld K2 K3
          have hHeld := hHeld2
          clear hHeld2
          refine norm_ (a' := ?_) ?_ ?_
          rotate_left
          · show Act.put _ (some 70) _ = _
            simp only [Act.put, List.setIfInBounds_toArray, List.set_cons_zero, List.set_cons_succ, i64_w, i32_w]
            rfl
          refine pure_ (i := 7) (N := some 63) (v := ?_) (a' := ?_) #[true, true, true, true, true, true, true, true, false, false, false, false] rfl rfl (by kernel_rfl) (fun _ _ _ h => h) (Or.inl ⟨by rfl, ?_⟩) ?_ ?_
          rotate_left
          · intro w'
            go_simp
            with_reducible rfl
          rotate_left
          · simp only [Act.put, List.setIfInBounds_toArray, List.set_cons_zero, List.set_cons_succ, i64_w, i32_w]
            rfl
          refine pure_ (i := 8) (N := some 71) (v := ?_) (a' := ?_) #[true, true, true, true, true, true, true, true, true, false, false, false] rfl rfl (by kernel_rfl) (fun _ _ _ h => h) (Or.inl ⟨by rfl, ?_⟩) ?_ ?_
          rotate_left
          · intro w'
            go_simp
            with_reducible rfl
          rotate_left
          · simp only [Act.put, List.setIfInBounds_toArray, List.set_cons_zero, List.set_cons_succ, i64_w, i32_w]
            rfl
          refine pure_ (i := 9) (N := some 72) (v := ?_) (a' := ?_) #[true, true, true, true, true, true, true, true, true, true, false, false] rfl rfl (by kernel_rfl) (fun _ _ _ h => h) (Or.inl ⟨by rfl, ?_⟩) ?_ ?_
          rotate_left
          · intro w'
            go_simp
            with_reducible rfl
          rotate_left
          · simp only [Act.put, List.setIfInBounds_toArray, List.set_cons_zero, List.set_cons_succ, i64_w, i32_w]
            rfl
          refine pure_ (i := 10) (N := some 13) (v := ?_) (a' := ?_) #[true, true, true, true, true, true, true, true, true, true, true, false] rfl rfl (by kernel_rfl) (fun _ _ _ h => h) (Or.inl ⟨by rfl, ?_⟩) ?_ ?_
          rotate_left
          · intro w'
            go_simp
            with_reducible rfl
          rotate_left
          · simp only [Act.put, List.setIfInBounds_toArray, List.set_cons_zero, List.set_cons_succ, i64_w, i32_w]
            rfl
          refine pure_ (i := 11) (N := some 14) (v := ?_) (a' := ?_) #[true, true, true, true, true, true, true, true, true, true, true, true] rfl rfl (by kernel_rfl) (fun _ _ _ h => h) (Or.inl ⟨by rfl, ?_⟩) ?_ ?_
          rotate_left
          · intro w'
            go_simp
            with_reducible rfl
          rotate_left
          · simp only [Act.put, List.setIfInBounds_toArray, List.set_cons_zero, List.set_cons_succ, i64_w, i32_w]
            rfl
          refine done_ (by kernel_rfl) ?_
          have B10 := Aside0.mk hHeld
          clear hHeld
          cases t1 with
          | true =>
            cases u1 with
            | true =>
              go_wp2_with (first | ((with_reducible refine gate_load (t := 24) (x := .tmp 3) rfl ?_); refine run_law (by rfl) (.agg ca) (load_run (ty := 24) (x := .tmp 3) (b := w.heap.size) (t := 24) (cs := ca) ?h1 ?h2 B10.out.g1 ?h3 Try.underlying24 ?h4) ?_; (case h1 => rfl); (case h2 => rfl); (case h3 => rfl); (case h4 => rw [Hca.out]; kernel_rfl)) | ((with_reducible refine gate_load (t := 24) (x := .tmp 4) rfl ?_); refine run_law (by rfl) (.agg cb) (load_run (ty := 24) (x := .tmp 4) (b := w.heap.size + 1) (t := 24) (cs := cb) ?h1 ?h2 B10.out.g2 ?h3 Try.underlying24 ?h4) ?_; (case h1 => rfl); (case h2 => rfl); (case h3 => rfl); (case h4 => rw [Hcb.out]; kernel_rfl)) | ((with_reducible refine gate_load (t := 24) (x := .tmp 5) rfl ?_); refine run_law (by rfl) (.agg cc) (load_run (ty := 24) (x := .tmp 5) (b := w.heap.size + 1 + 1) (t := 24) (cs := cc) ?h1 ?h2 B10.out.g3 ?h3 Try.underlying24 ?h4) ?_; (case h1 => rfl); (case h2 => rfl); (case h3 => rfl); (case h4 => rw [Hcc.out]; kernel_rfl)) | (go_at_call 59; skip))
              refine (awake_calls _).mono ?_
              rintro e w9 ⟨rfl, hb9⟩
              have B9 := Aside0.mk (B10.out.go hb9)
              clear hb9
              go_wp2
              go_ret
              exact ⟨rfl, B9.out.below⟩
            | false =>
              have c2 : (u2 != 0) = true := bne_iff_ne.mpr (by have := HL2.out; simpa using this)
              go_wp2_with (first | ((with_reducible refine gate_load (t := 24) (x := .tmp 3) rfl ?_); refine run_law (by rfl) (.agg ca) (load_run (ty := 24) (x := .tmp 3) (b := w.heap.size) (t := 24) (cs := ca) ?h1 ?h2 B10.out.g1 ?h3 Try.underlying24 ?h4) ?_; (case h1 => rfl); (case h2 => rfl); (case h3 => rfl); (case h4 => rw [Hca.out]; kernel_rfl)) | ((with_reducible refine gate_load (t := 24) (x := .tmp 4) rfl ?_); refine run_law (by rfl) (.agg cb) (load_run (ty := 24) (x := .tmp 4) (b := w.heap.size + 1) (t := 24) (cs := cb) ?h1 ?h2 B10.out.g2 ?h3 Try.underlying24 ?h4) ?_; (case h1 => rfl); (case h2 => rfl); (case h3 => rfl); (case h4 => rw [Hcb.out]; kernel_rfl)) | ((with_reducible refine gate_load (t := 24) (x := .tmp 5) rfl ?_); refine run_law (by rfl) (.agg cc) (load_run (ty := 24) (x := .tmp 5) (b := w.heap.size + 1 + 1) (t := 24) (cs := cc) ?h1 ?h2 B10.out.g3 ?h3 Try.underlying24 ?h4) ?_; (case h1 => rfl); (case h2 => rfl); (case h3 => rfl); (case h4 => rw [Hcc.out]; kernel_rfl)) | (go_at_call 59; skip))
              refine (awake_calls _).mono ?_
              rintro e w9 ⟨rfl, hb9⟩
              have B9 := Aside0.mk (B10.out.go hb9)
              clear hb9
              go_wp2
              go_ret
              exact ⟨rfl, B9.out.below⟩
          | false =>
            have c1 : (t2 != 0) = true := bne_iff_ne.mpr (by have := HL1.out; simpa using this)
            cases u1 with
            | true =>
              go_wp2_with (first | ((with_reducible refine gate_load (t := 24) (x := .tmp 3) rfl ?_); refine run_law (by rfl) (.agg ca) (load_run (ty := 24) (x := .tmp 3) (b := w.heap.size) (t := 24) (cs := ca) ?h1 ?h2 B10.out.g1 ?h3 Try.underlying24 ?h4) ?_; (case h1 => rfl); (case h2 => rfl); (case h3 => rfl); (case h4 => rw [Hca.out]; kernel_rfl)) | ((with_reducible refine gate_load (t := 24) (x := .tmp 4) rfl ?_); refine run_law (by rfl) (.agg cb) (load_run (ty := 24) (x := .tmp 4) (b := w.heap.size + 1) (t := 24) (cs := cb) ?h1 ?h2 B10.out.g2 ?h3 Try.underlying24 ?h4) ?_; (case h1 => rfl); (case h2 => rfl); (case h3 => rfl); (case h4 => rw [Hcb.out]; kernel_rfl)) | ((with_reducible refine gate_load (t := 24) (x := .tmp 5) rfl ?_); refine run_law (by rfl) (.agg cc) (load_run (ty := 24) (x := .tmp 5) (b := w.heap.size + 1 + 1) (t := 24) (cs := cc) ?h1 ?h2 B10.out.g3 ?h3 Try.underlying24 ?h4) ?_; (case h1 => rfl); (case h2 => rfl); (case h3 => rfl); (case h4 => rw [Hcc.out]; kernel_rfl)) | (go_at_call 59; skip))
              refine (awake_calls _).mono ?_
              rintro e w9 ⟨rfl, hb9⟩
              have B9 := Aside0.mk (B10.out.go hb9)
              clear hb9
              go_wp2
              go_ret
              exact ⟨rfl, B9.out.below⟩
            | false =>
              have c2 : (u2 != 0) = true := bne_iff_ne.mpr (by have := HL2.out; simpa using this)
              go_wp2_with (first | ((with_reducible refine gate_load (t := 24) (x := .tmp 3) rfl ?_); refine run_law (by rfl) (.agg ca) (load_run (ty := 24) (x := .tmp 3) (b := w.heap.size) (t := 24) (cs := ca) ?h1 ?h2 B10.out.g1 ?h3 Try.underlying24 ?h4) ?_; (case h1 => rfl); (case h2 => rfl); (case h3 => rfl); (case h4 => rw [Hca.out]; kernel_rfl)) | ((with_reducible refine gate_load (t := 24) (x := .tmp 4) rfl ?_); refine run_law (by rfl) (.agg cb) (load_run (ty := 24) (x := .tmp 4) (b := w.heap.size + 1) (t := 24) (cs := cb) ?h1 ?h2 B10.out.g2 ?h3 Try.underlying24 ?h4) ?_; (case h1 => rfl); (case h2 => rfl); (case h3 => rfl); (case h4 => rw [Hcb.out]; kernel_rfl)) | ((with_reducible refine gate_load (t := 24) (x := .tmp 5) rfl ?_); refine run_law (by rfl) (.agg cc) (load_run (ty := 24) (x := .tmp 5) (b := w.heap.size + 1 + 1) (t := 24) (cs := cc) ?h1 ?h2 B10.out.g3 ?h3 Try.underlying24 ?h4) ?_; (case h1 => rfl); (case h2 => rfl); (case h3 => rfl); (case h4 => rw [Hcc.out]; kernel_rfl)) | (go_at_call 59; skip))
              refine (awake_calls _).mono ?_
              rintro e w9 ⟨rfl, hb9⟩
              have B9 := Aside0.mk (B10.out.go hb9)
              clear hb9
              go_wp2
              go_ret
              exact ⟨rfl, B9.out.below⟩
theorem keeps_law (w : World) (A : Option Addr) (c : Nat) (a : S24) (B : Option Addr) (d : Nat) (b : S24) (C : Option Addr) (f : Nat) (x : S24) (hc : a.f2.length ≤ c) (hA : Kd.C k24 w A a.f2.length a.f2) (hd : b.f2.length ≤ d) (hB : Kd.C k24 w B b.f2.length b.f2) (hf : x.f2.length ≤ f) (hC : Kd.C k24 w C x.f2.length x.f2) :
    Calls Try.prog 4 #[.agg (sV a A c), .agg (sV b B d), .agg (sV x C f)] w fun e w' => e = .returned (.bool true) ∧ Below w.heap.size w w' := keeps_S w a b x _ _ _ _ (Sm.of hc hA) (Sm.of hd hB) (Sm.of hf hC)
end
end Go.Proofs.Ytlidibbdacohaaa.R
