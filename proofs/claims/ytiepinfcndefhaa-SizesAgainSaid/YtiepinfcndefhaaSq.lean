/- Terminates, and the chapter's examples: the walks. No condition. -/
import Derived.Test.YtiepinfcndefhaaSn
namespace Go.Proofs.Ytiepinfcndefhaa.S
open Go.RowKit Go.Proofs.YtiepinfcndefhaaW.PrintWords Go.Proofs.YtiepinfcndefhaaW.PrintLast Go.Proofs.YtiepinfcndefhaaW.PrintMore
set_option linter.unusedVariables false
set_option linter.unusedSimpArgs false

/-- A block whose cells are elements, read as a slice. -/
theorem C_row {α : Type} {d : Kd α} {w : World} {b t : Nat} {inner : List Value} {xs : List α} (hb : w.heap[b]? = some (.cells inner.toArray t (0, 0))) (hr : Reps (d.K w) d.sz xs inner) (hn : xs.length ≤ 9223372036854775807) : d.C w (some ⟨b, 0, none⟩) xs.length xs := by
  refine ⟨rfl, hn, fun _ => ⟨_, rfl, fun j p hj => ⟨(inner.drop (j * d.sz)).take d.sz, d.K_len (hr.2 j p hj), hr.2 j p hj, fun i u hu => ?_⟩⟩⟩
  have hi : i < d.sz := by
    have := (List.getElem?_eq_some_iff.1 hu).1
    rw [List.length_take] at this
    omega
  rw [List.getElem?_take, if_pos hi, List.getElem?_drop] at hu
  have e : (⟨b, 0, none⟩ : Addr).add (j * d.sz + i) = ⟨b, 0 + (j * d.sz + i), none⟩ := by unfold Addr.add; split <;> simp_all
  rw [Nat.zero_add] at e
  rw [e, cell_of_row w b _ _ t (0, 0) hb]
  simpa using hu
theorem closedF_cases (l : List Cl) : (∃ a, closedF l 4 2 = (some a, 0) ∧ a.length ≤ 2000) ∨ closedF l 4 2 = (none, 2) ∨ closedF l 4 2 = (none, 4) := by
  by_cases h : 60 < l.length
  · exact .inr (.inl (by unfold closedF; rw [if_pos h]))
  · cases hr : readL l with
    | none => exact .inr (.inr (by unfold closedF; rw [if_neg h, hr]))
    | some gs =>
      cases hq : closedQ gs with
      | none =>
        refine .inr (.inl ?_)
        unfold closedF
        rw [if_neg h, hr]
        simp only [hq]
      | some a =>
        refine .inl ⟨a, ?_, (closedQ_some hq).1.len⟩
        unfold closedF
        rw [if_neg h, hr]
        simp only [hq]
section
variable {A : Option Addr} {cp : Nat} {l : List Cl} {w : World} (h : kCl.C w A l.length l) (hs : ∀ c ∈ l, c.src.size ≤ maxLen ∧ c.dst.size ≤ maxLen ∧ c.arcs.length ≤ 1000000) (hl : l.length ≤ 9223372036854775807)
include h hs hl
theorem closed_none {x : Int} (hx : closedF l 4 2 = (none, x)) : Calls Try.prog 39 #[.slice A l.length cp] w fun e w' => e = .returned (.tuple #[.slice none 0 0, .int .i64 x]) ∧ Below w.heap.size w w' := (closed_calls A cp l w h hs hl).mono (by
  rintro e w' ⟨v, h1, h2, h3⟩
  rw [hx] at h1 h3
  have h3' : v = .slice none 0 0 := h3
  rw [h3'] at h1
  exact ⟨h1, h2⟩)
theorem closed_some {a : List Mk} (hx : closedF l 4 2 = (some a, 0)) : Calls Try.prog 39 #[.slice A l.length cp] w fun e w' => ∃ A c, e = .returned (.tuple #[.slice A a.length c, .int .i64 0]) ∧ kMk.C w' A a.length a ∧ Below w.heap.size w w' := (closed_calls A cp l w h hs hl).mono (by
  rintro e w' ⟨v, h1, h2, h3⟩
  rw [hx] at h1 h3
  have h3' : kMk.R 83 w' w.heap.size (fun _ => True) v a := h3
  obtain ⟨A, c, rfl, _, h4⟩ := Kd.R_reads h3'
  exact ⟨A, c, h1, h4, h2⟩)
set_option maxRecDepth 100000 in
theorem term_calls : Calls Try.prog 13 #[.slice A l.length cp] w fun e w' => e = .returned (.tuple #[.bool (termF l 4 2).1, .int .i64 (termF l 4 2).2]) ∧ Below w.heap.size w w' := by
  rcases closedF_cases l with ⟨a, hx, hal⟩ | hx | hx
  · have HT := Aside0.mk (show termF l 4 2 = (!a.any (fun m => badB m.1), 0) by unfold termF; rw [hx])
    have HC := Aside0.mk (closed_some (cp := cp) h hs hl hx)
    have HAL := Aside0.mk hal
    clear hx h hs hl hal
    obtain ⟨zc, hzc⟩ : ∃ zc, zc = (cG ⟨.empty, .empty, List.replicate 36 0⟩).push (.slice none 0 0) := ⟨_, rfl⟩
    have HZR8 := Aside0.mk (fun w => show (zeroValue 83).run Try.prog w = .ok (.agg zc) w from by rw [hzc]; exact zero83_run w)
    have HZS8 := Aside0.mk (show zc.size = 39 by rw [hzc]; simp [cG])
    clear hzc
    go_enter Try.func13, Try.ntmps13
    go_wp2_with (first | (go_at_call 39; refine HC.out.mono ?_; rintro e w5 ⟨A5, c5, rfl, hc5, hb5⟩; have HC5 := Aside0.mk hc5; have HB5 := Aside0.mk hb5; clear hb5 hc5) | (go_at_call 40; refine (bad_calls A5 c5 a w5 HC5.out (by have := HAL.out; omega)).mono ?_; rintro e w6 ⟨cs6, rfl, hm6, hb6⟩; have HM6 := Aside0.mk hm6; have HB6 := Aside0.mk hb6; clear hb6 hm6) | ((with_reducible refine gate_alloc (t := 83) rfl ?_); refine alloc_zero rfl rfl zc HZR8.out ?_) | ((with_reducible refine gate_store (t := 83) (p := 6) rfl ?_); refine store_last rfl rfl rfl _ 83 zc cs6 (by rfl) (by rfl) rfl (by rw [HM6.out.size]; kernel_rfl) (HZS8.out.trans HM6.out.size.symm) HM6.out.one ?_))
    go_ret2
    exact ⟨by rw [HT.out]; rfl, below_alloc (below_step HB5.out HB6.out) _⟩
  · have HT := Aside0.mk (show termF l 4 2 = (false, 2) by unfold termF; rw [hx])
    have HC := Aside0.mk (closed_none (cp := cp) h hs hl hx)
    clear hx h hs hl
    go_enter Try.func13, Try.ntmps13
    go_wp2_with (go_at_call 39; refine HC.out.mono ?_; rintro e w5 ⟨rfl, hb5⟩; have HB5 := Aside0.mk hb5; clear hb5)
    go_ret2
    exact ⟨by rw [HT.out]; rfl, HB5.out⟩
  · have HT := Aside0.mk (show termF l 4 2 = (false, 4) by unfold termF; rw [hx])
    have HC := Aside0.mk (closed_none (cp := cp) h hs hl hx)
    clear hx h hs hl
    go_enter Try.func13, Try.ntmps13
    go_wp2_with (go_at_call 39; refine HC.out.mono ?_; rintro e w5 ⟨rfl, hb5⟩; have HB5 := Aside0.mk hb5; clear hb5)
    go_ret2
    exact ⟨by rw [HT.out]; rfl, HB5.out⟩
end
def turnC : Cl := ⟨⟨#[102]⟩, ⟨#[102]⟩, [⟨0, 1, false⟩, ⟨1, 0, false⟩]⟩
def lessC : Cl := ⟨⟨#[102]⟩, ⟨#[102]⟩, [⟨0, 1, false⟩, ⟨1, 0, true⟩]⟩
theorem turn_term : termF [turnC] 4 2 = (false, 0) := by decide +kernel
theorem less_term : termF [lessC] 4 2 = (true, 0) := by decide +kernel
theorem arcs_row {w : World} {b : Nat} {x y : Ac} (hb : w.heap[b]? = some (.cells #[.int .i64 x.a, .int .i64 x.b, .bool x.s, .int .i64 y.a, .int .i64 y.b, .bool y.s] 24 (0, 0))) : kAc.C w (some ⟨b, 0, none⟩) 2 [x, y] := by
  refine C_row (xs := [x, y]) (inner := [.int .i64 x.a, .int .i64 x.b, .bool x.s, .int .i64 y.a, .int .i64 y.b, .bool y.s]) hb ?_ (by simp)
  have k : ∀ z : Ac, kAc.K w z [.int .i64 z.a, .int .i64 z.b, .bool z.s] := fun z => ⟨[.int .i64 z.a], [.int .i64 z.b, .bool z.s], rfl, rfl, [.int .i64 z.b], [.bool z.s], rfl, rfl, rfl⟩
  exact Reps.c3 (k x) (Reps.c3 (k y) (Reps.none _ _))
theorem call_row {w : World} {b cp : Nat} {A : Option Addr} {c : Cl} (hb : w.heap[b]? = some (.cells #[.string c.src, .string c.dst, .slice A c.arcs.length cp] 34 (0, 0))) (hcp : c.arcs.length ≤ cp) (hr : kAc.C w A c.arcs.length c.arcs) : kCl.C w (some ⟨b, 0, none⟩) 1 [c] := by
  refine C_row (xs := [c]) (inner := [.string c.src, .string c.dst, .slice A c.arcs.length cp]) hb ?_ (by simp)
  have k : kCl.K w c [.string c.src, .string c.dst, .slice A c.arcs.length cp] := ⟨[.string c.src], _, rfl, rfl, [.string c.dst], [.slice A c.arcs.length cp], rfl, rfl, A, cp, rfl, hcp, hr⟩
  exact Reps.c3 k (Reps.none _ _)
def aw1 : Array Value := #[.int .i64 0, .int .i64 1, .bool false, .int .i64 1, .int .i64 0, .bool false]
def aw2 : Array Value := #[.int .i64 0, .int .i64 1, .bool false, .int .i64 1, .int .i64 0, .bool true]
def awc (b : Nat) : Array Value := #[.string ⟨#[102]⟩, .string ⟨#[102]⟩, .slice (some ⟨b, 0, none⟩) 2 2]
def awW (w : World) : World := (((w.alloc (.cells aw1 24)).alloc (.cells (awc w.heap.size) 34)).alloc (.cells aw2 24)).alloc (.cells (awc (w.heap.size + 1 + 1)) 34)
theorem awake_mem (w : World) : Below w.heap.size w (awW w) ∧ (awW w).heap[w.heap.size]? = some (.cells aw1 24 (0, 0)) ∧ (awW w).heap[w.heap.size + 1 + 1]? = some (.cells aw2 24 (0, 0)) ∧ (awW w).heap[w.heap.size + 1 + 1 + 1]? = some (.cells (awc (w.heap.size + 1 + 1)) 34 (0, 0)) := by
  have st : ∀ (W : World) (o : Obj), Below W.heap.size W (W.alloc o) := fun W o => below_alloc (Below.refl _ _) o
  unfold awW
  have h1 := blk_new w (.cells aw1 24)
  have e1 : (w.alloc (.cells aw1 24)).heap.size = w.heap.size + 1 := World.size_alloc _ _
  have b1 := st w (.cells aw1 24)
  generalize w.alloc (.cells aw1 24) = W1 at h1 e1 b1 ⊢
  have e2 : (W1.alloc (.cells (awc w.heap.size) 34)).heap.size = w.heap.size + 1 + 1 := by rw [World.size_alloc, e1]
  have b2 := st W1 (.cells (awc w.heap.size) 34)
  generalize W1.alloc (.cells (awc w.heap.size) 34) = W2 at e2 b2 ⊢
  have h3 := blk_new W2 (.cells aw2 24)
  have e3 : (W2.alloc (.cells aw2 24)).heap.size = w.heap.size + 1 + 1 + 1 := by rw [World.size_alloc, e2]
  have b3 := st W2 (.cells aw2 24)
  generalize W2.alloc (.cells aw2 24) = W3 at h3 e3 b3 ⊢
  have h4 := blk_new W3 (.cells (awc (w.heap.size + 1 + 1)) 34)
  have b4 := st W3 (.cells (awc (w.heap.size + 1 + 1)) 34)
  rw [e2] at h3
  rw [e3] at h4
  exact ⟨below_step (below_step (below_step b1 b2) b3) b4, blk_below (blk_below (blk_below h1 b2) b3) b4, blk_below h3 b4, h4⟩
theorem awake_term {W : World} {b : Nat} {x y : Ac} {r : Bool} (ht : termF [⟨⟨#[102]⟩, ⟨#[102]⟩, [x, y]⟩] 4 2 = (r, 0)) (hb : W.heap[b]? = some (.cells #[.int .i64 x.a, .int .i64 x.b, .bool x.s, .int .i64 y.a, .int .i64 y.b, .bool y.s] 24 (0, 0))) :
    Calls Try.prog 13 #[.slice (some ⟨W.heap.size, 0, none⟩) 1 1] (W.alloc (.cells (awc b) 34)) fun e w' => e = .returned (.tuple #[.bool r, .int .i64 0]) ∧ Below W.heap.size W w' := by
  have hbw := below_alloc (Below.refl W.heap.size W) (.cells (awc b) 34)
  have h1 : kCl.C (W.alloc (.cells (awc b) 34)) (some ⟨W.heap.size, 0, none⟩) 1 [⟨⟨#[102]⟩, ⟨#[102]⟩, [x, y]⟩] := call_row (c := ⟨⟨#[102]⟩, ⟨#[102]⟩, [x, y]⟩) (blk_new W _) (Nat.le_refl 2) (arcs_row (blk_below hb hbw))
  have h2 := term_calls (cp := 1) (l := [⟨⟨#[102]⟩, ⟨#[102]⟩, [x, y]⟩]) h1 (by
    intro c hc
    rw [List.mem_singleton.1 hc]
    exact ⟨(by decide : (⟨#[102]⟩ : ByteArray).size ≤ maxLen), (by decide : (⟨#[102]⟩ : ByteArray).size ≤ maxLen), by simp⟩) (by simp)
  rw [ht] at h2
  exact h2.mono fun e w' ⟨h3, h4⟩ => ⟨h3, below_step hbw h4⟩
set_option maxRecDepth 100000 in
theorem awake_calls (w : World) : Calls Try.prog 12 #[] w fun e w' => e = .returned (.bool true) ∧ Below w.heap.size w w' := by
  obtain ⟨m0, m1, m2, m3⟩ := awake_mem w
  have H1 := Aside0.mk (awake_term (W := awW w) (x := ⟨0, 1, false⟩) (y := ⟨1, 0, false⟩) turn_term m1)
  have H2 := Aside0.mk (fun (W : World) (h : Below (awW w).heap.size (awW w) W) => awake_term (W := W) (x := ⟨0, 1, false⟩) (y := ⟨1, 0, true⟩) less_term (blk_below m2 h))
  have H3 := Aside0.mk m3
  have H0 := Aside0.mk m0
  have HSZ : Aside0 ((awW w).heap.size = w.heap.size + 1 + 1 + 1 + 1) := ⟨by unfold awW; simp only [World.size_alloc]⟩
  rw [HSZ.out] at H1
  unfold awW at H1
  simp only [aw1, aw2, awc] at H1
  clear m0 m1 m2 m3
  go_enter Try.func12, Try.ntmps12
  go_wp2_with (first | (go_at_call 13; refine H1.out.mono ?_; rintro e w5 ⟨rfl, hb5⟩; have HB5 : Aside0 (Below (awW w).heap.size (awW w) w5) := ⟨by rw [HSZ.out]; exact hb5⟩; have y0 := blk_at (blk_below H3.out HB5.out) (k := 0) rfl; have y1 := blk_at (blk_below H3.out HB5.out) (k := 1) rfl; have y2 := blk_at (blk_below H3.out HB5.out) (k := 2) rfl; clear hb5 H1) | (go_at_call 13; refine (H2.out w5 HB5.out).mono ?_; rintro e w6 ⟨rfl, hb6⟩; have HB6 := Aside0.mk (below_step (below_step H0.out HB5.out) hb6); clear hb6))
  go_ret
  exact ⟨rfl, HB6.out⟩
end Go.Proofs.Ytiepinfcndefhaa.S
