/- Hand-made contracts: slices.Grow, slices.Concat of constraints. -/
import Derived.Test.YtegejpcglabhbaaGHc
import Derived.Test.YtegejpcglabhbaaVX
namespace Go.Proofs.Ytegejpcglabhbaa.G
open Go.RowKit Go.Proofs.YtegejpcglabhbaaW.PrintWords Go.Proofs.YtegejpcglabhbaaW.PrintLast Go.Proofs.YtegejpcglabhbaaW.PrintMore
set_option linter.unusedVariables false
set_option linter.unusedSimpArgs false

theorem z44_F (w : World) : Kd.FK k44 w (fun _ => False) z44 (Value.agg #[(.int .i64 0), (.slice none 0 0), (.int .i64 0), (.slice none 0 0)]).cells.toList := fun W' _ =>
  k44_mk W' z44 (A1 := none) (c1 := 0) (A3 := none) (c3 := 0) (Nat.le_refl _) (Kd.C_nil _ _) (Nat.le_refl _) (Kd.C_nil _ _)
set_option maxHeartbeats 1000000 in
set_option maxRecDepth 100000 in
theorem growL (n : Int) (w : World) (h0 : 0 ≤ n) (hn : n ≤ 100000) : Calls Try.prog 94 #[.slice none 0 0, .int .i64 n] w fun e w' => ∃ v, e = .returned v ∧ Kd.N k44 44 w' w.heap.size (fun k_ => w.heap.size ≤ k_) v [] ∧ Below w.heap.size w w' := by
  by_cases hp : 0 < n
  · have hd : decide (n < 0) = false := decide_eq_false (by omega)
    have hd2 : decide (0 < n) = true := decide_eq_true hp
    go_enter Try.func94, Try.ntmps94
    go_wp2_with (at_builtin; refine Kd.N_append_zeros k44 (w0 := w) w.heap.size rfl (.tmp 20) (.tmp 21) 22 3 44 (.agg #[(.int .i64 0), (.slice none 0 0), (.int .i64 0), (.slice none 0 0)]) 64 rfl Try.underlying22 Try.underlying3 info44 rfl (by decide) (by omega) (.slice none 0 0) ([] : List S44) z44 n (fun k_ => w.heap.size ≤ k_) rfl rfl (z44_F _) (fun _ h => h) (Kd.N_nil _ _ _ _ _) h0 (Below.refl _ _) (Nat.le_refl _) (by simp; omega) ?_; intro v1 w1 ho hb hg hat; have HO := Aside0.mk ho; have HB := Aside0.mk hb; clear ho hb hg hat; obtain ⟨g, cap, hv, _, _, _⟩ := Kd.N_form HO.out (by simp; omega); subst hv)
    go_ret
    refine ⟨_, rfl, ?_, HB.out⟩
    have := Kd.N_take HO.out (m := 0) (Nat.zero_le _)
    simpa using this
  · have hn0 : n = 0 := by omega
    subst hn0
    go_enter Try.func94, Try.ntmps94
    go_wp2
    go_ret
    exact ⟨_, rfl, Kd.N_nil _ _ _ _ _, Below.refl _ _⟩
/-- The lists that are behind each other after some rounds. -/
def catTo (l1 l3 : List S44) (j : Nat) : List S44 := if j = 0 then [] else if j = 1 then l1 else l1 ++ l3
def lenTo (l1 l3 : List S44) (j : Nat) : Nat := if j = 0 then 0 else if j = 1 then l1.length else l1.length + l3.length
set_option maxHeartbeats 4000000 in
set_option maxRecDepth 100000 in
theorem concatL (A1 : Option Addr) (c1 : Nat) (l1 : List S44) (A3 : Option Addr) (c3 : Nat) (l3 : List S44) (g : Nat) (w : World) (hg : w.heap[g]? = some (.cells #[.slice A1 l1.length c1, .slice A3 l3.length c3] 22 (0, 0)))
    (P : Nat → Prop) (hP : ∀ k, P k → k < w.heap.size) (hr1 : Kd.F k44 w P A1 l1.length l1) (hr3 : Kd.F k44 w P A3 l3.length l3) (hl1 : l1.length ≤ 10000) (hl3 : l3.length ≤ 10000) :
    Calls Try.prog 75 #[.slice (some ⟨g, 0, none⟩) 2 2] w fun e w' => ∃ A c, e = .returned (.slice A (l1 ++ l3).length c) ∧ Kd.F k44 w' (fun k_ => P k_ ∨ w.heap.size ≤ k_) A (l1 ++ l3).length (l1 ++ l3) ∧ (l1 ++ l3).length ≤ c ∧ Below w.heap.size w w' := by
  have F1 := Aside0.mk hr1
  have F3 := Aside0.mk hr3
  have HP := Aside0.mk hP
  have BG := Aside0.mk hg
  have HB := Aside0.mk (Below.refl w.heap.size w)
  have M1 : l1.length ≤ 9223372036854775807 := (Kd.F_now hr1).2.1
  have M3 : l3.length ≤ 9223372036854775807 := (Kd.F_now hr3).2.1
  clear hr1 hr3 hg hP
  go_enter Try.func75, Try.ntmps75
  go_wp2
  go_loopg [3, 11] 2 (fun kq v3 v11 w' => ∃ (j : Nat), v11 = .int .i64 (j : Int) ∧ v3 = .int .i64 ((lenTo l1 l3 j : Nat) : Int) ∧ Aside0 (kq + j = 2) ∧ Aside0 (w'.heap[g]? = some (.cells #[.slice A1 l1.length c1, .slice A3 l3.length c3] 22 (0, 0))) ∧ Aside0 (Below w.heap.size w w'))
  case atStart => exact ⟨0, rfl, rfl, ⟨rfl⟩, BG, HB⟩
  case round =>
    clear BG HB
    obtain ⟨j, rfl, rfl, HK, BG, HB⟩ := hrel
    have hj : j = 0 ∨ j = 1 ∨ j = 2 := by have := HK.out; omega
    have z0 := (blk_cell BG.out 0).trans rfl
    have z1 := (blk_cell BG.out 1).trans rfl
    rcases hj with rfl | rfl | rfl
    · have e0 : lenTo l1 l3 0 = 0 := rfl
      rw [e0]
      go_wp2
      go_roundg 1
      case measure => have := HK.out; omega
      case rel => exact ⟨1, rfl, rfl, ⟨rfl⟩, BG, HB⟩
    · have e0 : lenTo l1 l3 1 = l1.length := rfl
      rw [e0]
      clear e0
      go_wp2
      go_roundg 0
      case measure => have := HK.out; omega
      case rel => exact ⟨2, rfl, by show Value.int .i64 ((l1.length : Int) + (l3.length : Int)) = .int .i64 ((l1.length + l3.length : Nat) : Int); rw [Int.natCast_add], ⟨rfl⟩, BG, HB⟩
    · have e0 : lenTo l1 l3 2 = l1.length + l3.length := rfl
      rw [e0]
      clear e0 z0 z1
      have hc : ((l1.length + l3.length : Nat) : Int) ≤ 20000 := by omega
      have hc0 : (0 : Int) ≤ ((l1.length + l3.length : Nat) : Int) := by omega
      generalize ((l1.length + l3.length : Nat) : Int) = sz at hc hc0
      go_wp2_with (fail)
      refine (growL sz _ hc0 (by omega)).mono ?_
      rintro e w1 ⟨v, rfl, hv, hb⟩
      have HZ := HB.out.size
      have HV := Aside0.mk (Kd.N_mono (ok' := fun k_ => P k_ ∨ w.heap.size ≤ k_) (Kd.N_lower hv HZ) (fun k_ hk => .inr (Nat.le_trans HZ hk)))
      have BG := Aside0.mk (blk_below BG.out hb)
      have HB := Aside0.mk (below_step HB.out hb)
      clear hv hb HZ hc hc0
      go_wp2
      clear HK
      go_loopg [6, 27] 2 (fun kq v6 v27 w' => ∃ (j : Nat), v27 = .int .i64 (j : Int) ∧ Aside0 (kq + j = 2) ∧ Aside0 (Kd.N k44 44 w' w.heap.size (fun k_ => P k_ ∨ w.heap.size ≤ k_) v6 (catTo l1 l3 j)) ∧ Aside0 (w'.heap[g]? = some (.cells #[.slice A1 l1.length c1, .slice A3 l3.length c3] 22 (0, 0))) ∧ Aside0 (Below w.heap.size w w'))
      case atStart => exact ⟨0, rfl, ⟨rfl⟩, HV, BG, HB⟩
      case round =>
        clear HV BG HB
        obtain ⟨j, rfl, HK, HV, BG, HB⟩ := hrel
        have hj : j = 0 ∨ j = 1 ∨ j = 2 := by have := HK.out; omega
        have z0 := (blk_cell BG.out 0).trans rfl
        have z1 := (blk_cell BG.out 1).trans rfl
        rcases hj with rfl | rfl | rfl
        · obtain ⟨v, hv⟩ : ∃ v, v = u6 := ⟨_, rfl⟩
          rw [← hv] at HV ⊢
          clear hv
          have HBG := Aside0.mk (blk_lt BG.out)
          go_wp2_with (at_builtin; refine Kd.N_append_rows k44 (w0 := w) w.heap.size rfl (.tmp 31) (.tmp 32) 22 44 (.agg #[(.int .i64 0), (.slice none 0 0), (.int .i64 0), (.slice none 0 0)]) 64 rfl Try.underlying22 info44 rfl (by decide) (by omega) v ([] : List S44) l1 A1 l1.length c1 (fun k_ => P k_ ∨ w.heap.size ≤ k_) P rfl rfl HV.out (Kd.F_below F1.out HB.out) (fun k_ hk => ⟨.inl hk, fun e_ => by have := Kd.N_base HV.out k_ e_.symm; have := HP.out k_ hk; omega⟩) (fun k_ hk => .inr (Nat.le_trans HB.out.size hk)) HB.out HB.out.size (by simp; omega) ?_; intro v1 w2 ho hb hg hat; rw [List.nil_append] at ho; have HO := Aside0.mk ho; have HB2 := Aside0.mk hb; have BG2 := Aside0.mk ((hg.block g HBG.out (fun e_ => by have h1 := Kd.N_typed HV.out g e_.symm; obtain ⟨cells, h1⟩ := h1; rw [BG.out] at h1; injection h1 with h1; injection h1 with _ h1; exact absurd h1 (by decide))).trans BG.out); clear ho hb hg hat)
          go_roundg 1
          case measure => have := HK.out; omega
          case rel => exact ⟨1, rfl, ⟨rfl⟩, HO, BG2, HB2⟩
        · obtain ⟨v, hv⟩ : ∃ v, v = u6 := ⟨_, rfl⟩
          rw [← hv] at HV ⊢
          clear hv
          have HBG := Aside0.mk (blk_lt BG.out)
          go_wp2_with (at_builtin; refine Kd.N_append_rows k44 (w0 := w) w.heap.size rfl (.tmp 31) (.tmp 32) 22 44 (.agg #[(.int .i64 0), (.slice none 0 0), (.int .i64 0), (.slice none 0 0)]) 64 rfl Try.underlying22 info44 rfl (by decide) (by omega) v l1 l3 A3 l3.length c3 (fun k_ => P k_ ∨ w.heap.size ≤ k_) P rfl rfl HV.out (Kd.F_below F3.out HB.out) (fun k_ hk => ⟨.inl hk, fun e_ => by have := Kd.N_base HV.out k_ e_.symm; have := HP.out k_ hk; omega⟩) (fun k_ hk => .inr (Nat.le_trans HB.out.size hk)) HB.out HB.out.size (by omega) ?_; intro v1 w2 ho hb hg hat; have HO := Aside0.mk ho; have HB2 := Aside0.mk hb; have BG2 := Aside0.mk ((hg.block g HBG.out (fun e_ => by have h1 := Kd.N_typed HV.out g e_.symm; obtain ⟨cells, h1⟩ := h1; rw [BG.out] at h1; injection h1 with h1; injection h1 with _ h1; exact absurd h1 (by decide))).trans BG.out); clear ho hb hg hat)
          go_roundg 0
          case measure => have := HK.out; omega
          case rel => exact ⟨2, rfl, ⟨rfl⟩, HO, BG2, HB2⟩
        · have HV2 := Aside0.mk (show Kd.N k44 44 wr w.heap.size (fun k_ => P k_ ∨ w.heap.size ≤ k_) u6 (l1 ++ l3) from HV.out)
          clear HV z0 z1
          obtain ⟨A, c, hv, hlc, hC⟩ := Kd.N_reads HV2.out
          subst hv
          have HC := Aside0.mk (Kd.N_F HV2.out)
          have HLC := Aside0.mk hlc
          clear hC hlc HV2
          go_wp2
          go_ret
          exact ⟨A, c, rfl, HC.out, HLC.out, HB.out⟩
end Go.Proofs.Ytegejpcglabhbaa.G
