/- The program's Closure, its sort, and the laws SizesCloses and SizesAgain: the walks. No condition. -/
import Derived.Test.YtiepinfcndefhaaVu
import Derived.Test.YtiepinfcndefhaaTa
import Derived.Sort.Statements
import Derived.Sort.Grow
import Derived.Maps.Own
import Derived.Shelf.SlSortCmp.WholeK
namespace Go.Proofs.Ytiepinfcndefhaa.S
open Go.RowKit Go.Proofs.YtiepinfcndefhaaW.PrintWords Go.Proofs.YtiepinfcndefhaaW.PrintLast Go.Proofs.YtiepinfcndefhaaW.PrintMore
set_option linter.unusedVariables false
set_option linter.unusedSimpArgs false

section

/-- Nothing old has changed; draws do not go back. -/
def Grew (W W2 : World) : Prop := Below W.heap.size W W2 ∧ W.drawn ≤ W2.drawn
theorem Grew.refl (W : World) : Grew W W := ⟨Below.refl _ _, Nat.le_refl _⟩
theorem Grew.trans {a b c : World} (h : Grew a b) (k : Grew b c) : Grew a c := ⟨below_step h.1 k.1, Nat.le_trans h.2 k.2⟩
theorem Grew.alloc (W : World) (o : Obj) : Grew W (W.alloc o) := ⟨below_alloc (Below.refl _ _) o, Nat.le_refl _⟩
theorem Grew.drew (W : World) : Grew W W.drew := ⟨below_drew1 (Below.refl _ _), Nat.le_succ _⟩
theorem Grew.exact {W W2 : World} (h : Grew W W2) : ∃ q os, W2 = Go.Sort.grow (W.drewN q) os := by
  obtain ⟨⟨h1, h2, h3, h4, h5⟩, h6⟩ := h
  refine ⟨W2.drawn - W.drawn, W2.heap.extract W.heap.size W2.heap.size, ?_⟩
  have hh : W2.heap = W.heap ++ W2.heap.extract W.heap.size W2.heap.size := by
    refine Array.ext_getElem? fun i => ?_
    rw [Array.getElem?_append]
    split
    · rename_i hi
      exact h5 i hi
    · rename_i hi
      rw [Array.getElem?_extract]
      by_cases hlt : i < W2.heap.size
      · rw [if_pos (by omega), show W.heap.size + (i - W.heap.size) = i by omega]
      · rw [if_neg (by omega)]
        exact Array.getElem?_eq_none (by omega)
  have hd : W.drawn + (W2.drawn - W.drawn) = W2.drawn := by omega
  obtain ⟨heap, tape, drawn, os, output⟩ := W
  obtain ⟨heap2, tape2, drawn2, os2, output2⟩ := W2
  dsimp only at h1 h2 h3 hh hd
  subst h1
  subst h2
  subst h3
  simp only [Go.Sort.grow, World.drewN, World.mk.injEq, true_and, and_true]
  exact ⟨hh, hd.symm⟩
def cmpS (a b : ByteArray) : Int := if Op.bytesLess a.toList b.toList = true then -1 else if Op.bytesLess b.toList a.toList = true then 1 else 0
def cmpI (a b : Int) : Int := if a < b then -1 else if b < a then 1 else 0
def orI : List Int → Int
  | [] => 0
  | x :: l => if x = 0 then orI l else x
def b2i (b : Bool) : Int := if b = true then 1 else 0
def cmpA (x y : Ac) : Int := orI [cmpI x.a y.a, cmpI x.b y.b, cmpI (b2i x.s) (b2i y.s)]
def cmpAs : List Ac → List Ac → Int
  | [], [] => 0
  | [], _ :: _ => -1
  | _ :: _, [] => 1
  | x :: a, y :: b => if cmpA x y = 0 then cmpAs a b else cmpA x y
def cmpC (a b : Cl) : Int := orI [cmpS a.src b.src, cmpS a.dst b.dst, cmpAs a.arcs b.arcs]
/-- The sign of a comparison, by what is less. -/
def sgn (p q : Bool) : Int := if p = true then -1 else if q = true then 1 else 0
theorem cmpA_sgn (x y : Ac) : cmpA x y = sgn (beforeA x y) (beforeA y x) := by
  obtain ⟨a, b, s⟩ := x
  obtain ⟨c, d, t⟩ := y
  unfold cmpA sgn beforeA cmpI
  rcases Int.lt_trichotomy a c with h | h | h
  · simp [orI, h, Int.ne_of_lt h]
  · subst h
    rcases Int.lt_trichotomy b d with h | h | h
    · simp [orI, h, Int.ne_of_lt h]
    · subst h
      cases s <;> cases t <;> simp [orI, b2i]
    · simp [orI, h, Int.ne_of_gt h, Int.lt_asymm h, (Int.ne_of_gt h).symm]
  · simp [orI, h, Int.ne_of_gt h, Int.lt_asymm h, (Int.ne_of_gt h).symm]
theorem sgn_zero {p q : Bool} : sgn p q = 0 ↔ p = false ∧ q = false := by
  cases p <;> cases q <;> simp [sgn]
theorem cmpA_zero {x y : Ac} : cmpA x y = 0 ↔ x = y := by
  rw [cmpA_sgn, sgn_zero]
  exact ⟨fun h => ba_tri h.1 h.2, fun h => by subst h; exact ⟨ba_irr _, ba_irr _⟩⟩
theorem cmpAs_sgn : ∀ (a b : List Ac), cmpAs a b = sgn (lessAs a b) (lessAs b a)
  | [], [] => rfl
  | [], _ :: _ => rfl
  | _ :: _, [] => rfl
  | x :: a, y :: b => by
    simp only [cmpAs, lessAs]
    by_cases e : x = y
    · rw [if_pos (cmpA_zero.2 e), if_pos e, if_pos e.symm]
      exact cmpAs_sgn a b
    · rw [if_neg (fun h => e (cmpA_zero.1 h)), if_neg e, if_neg (fun h => e h.symm)]
      exact cmpA_sgn x y
theorem cmpS_sgn (a b : ByteArray) : cmpS a b = sgn (Op.bytesLess a.toList b.toList) (Op.bytesLess b.toList a.toList) := rfl
theorem cmpS_zero {a b : ByteArray} : cmpS a b = 0 ↔ a = b := by
  rw [cmpS_sgn, sgn_zero]
  exact ⟨fun h => bytes_inj (bl_tri h.1 h.2), fun h => by subst h; exact ⟨bl_irr _, bl_irr _⟩⟩
theorem cmpC_sgn (a b : Cl) : cmpC a b = sgn (lssC a b) (lssC b a) := by
  unfold cmpC lssC
  simp only [orI]
  by_cases e : a.src = b.src
  · rw [if_pos (cmpS_zero.2 e), if_pos e, if_pos e.symm]
    by_cases e2 : a.dst = b.dst
    · rw [if_pos (cmpS_zero.2 e2), if_pos e2, if_pos e2.symm, cmpAs_sgn]
      split
      · rename_i h; exact h.symm
      · rfl
    · rw [if_neg (fun h => e2 (cmpS_zero.1 h)), if_neg e2, if_neg (fun h => e2 h.symm), cmpS_sgn]
  · rw [if_neg (fun h => e (cmpS_zero.1 h)), if_neg e, if_neg (fun h => e h.symm), cmpS_sgn]
theorem cmpC_lt (a b : Cl) : decide (cmpC a b < 0) = lssC a b := by
  rw [cmpC_sgn, sgn]
  cases lssC a b <;> cases lssC b a <;> rfl
theorem nanS_calls (s : ByteArray) (w : World) : Calls Try.prog 74 #[.string s] w fun e w' => e = .returned (.bool false) ∧ w' = w := by
  have e2 : (s.toList == s.toList) = true := beq_self_eq_true _
  have e1 : (s == s) = true := (beq_toListBytes _ _).trans e2
  have n1 : (s != s) = false := by rw [bne, e1]; rfl
  go_enter Try.func74, Try.ntmps74
  go_wp2
  go_ret
  exact ⟨rfl, rfl⟩
theorem nanI_calls (s : Int) (w : World) : Calls Try.prog 103 #[.int .i64 s] w fun e w' => e = .returned (.bool false) ∧ w' = w := by
  have n1 : (s != s) = false := by simp
  go_enter Try.func103, Try.ntmps103
  go_wp2
  go_ret
  exact ⟨rfl, rfl⟩
theorem gtr_str (a b : ByteArray) (w : World) (h : Op.bytesLess a.toList b.toList = false) : (binOp .gtr 9 (.string a) (.string b)).run Try.prog w = .ok (.bool (Op.bytesLess b.toList a.toList)) w := by
  have e : Op.bytesLess b.toList a.toList = !(Op.bytesLess a.toList b.toList || a.toList == b.toList) := by
    rw [h, Bool.false_or]
    cases h2 : Op.bytesLess b.toList a.toList with
    | false =>
      rw [bl_tri h h2]
      simp
    | true =>
      have : a.toList ≠ b.toList := fun e => by rw [e, bl_irr] at h2; cases h2
      simp [this]
  rw [e]
  simp only [binOp, Op.stringOp, Sem.run_pure]
theorem cmpS_calls (a b : ByteArray) (w : World) : Calls Try.prog 53 #[.string a, .string b] w fun e w' => e = .returned (.int .i64 (cmpS a b)) ∧ Grew w w' := by
  unfold cmpS
  have hgt0 := fun w => gtr_str a b w
  generalize h1 : Op.bytesLess a.toList b.toList = p
  generalize h2 : Op.bytesLess b.toList a.toList = q at hgt0 ⊢
  cases p with
  | true =>
    go_enter Try.func53, Try.ntmps53
    go_wp2_with (go_at_call 74; refine (nanS_calls _ _).mono ?_; rintro e w1 ⟨rfl, rfl⟩)
    go_ret
    exact ⟨rfl, Grew.refl _⟩
  | false =>
    have hgt := fun w => hgt0 w h1
    clear hgt0
    cases q with
    | true =>
      go_enter Try.func53, Try.ntmps53
      go_wp2_with (go_at_call 74; refine (nanS_calls _ _).mono ?_; rintro e w1 ⟨rfl, rfl⟩)
      go_ret
      exact ⟨rfl, Grew.refl _⟩
    | false =>
      go_enter Try.func53, Try.ntmps53
      go_wp2_with (go_at_call 74; refine (nanS_calls _ _).mono ?_; rintro e w1 ⟨rfl, rfl⟩)
      go_ret
      exact ⟨rfl, Grew.refl _⟩
theorem cmpI_calls (a b : Int) (w : World) : Calls Try.prog 75 #[.int .i64 a, .int .i64 b] w fun e w' => e = .returned (.int .i64 (cmpI a b)) ∧ Grew w w' := by
  unfold cmpI
  by_cases h1 : a < b
  · have d1 : decide (a < b) = true := decide_eq_true h1
    rw [if_pos h1]
    go_enter Try.func75, Try.ntmps75
    go_wp2_with (go_at_call 103; refine (nanI_calls _ _).mono ?_; rintro e w1 ⟨rfl, rfl⟩)
    go_ret
    exact ⟨rfl, Grew.refl _⟩
  · have d1 : decide (a < b) = false := decide_eq_false h1
    rw [if_neg h1]
    by_cases h2 : b < a
    · have d2 : decide (b < a) = true := decide_eq_true h2
      rw [if_pos h2]
      go_enter Try.func75, Try.ntmps75
      go_wp2_with (go_at_call 103; refine (nanI_calls _ _).mono ?_; rintro e w1 ⟨rfl, rfl⟩)
      go_ret
      exact ⟨rfl, Grew.refl _⟩
    · have d2 : decide (b < a) = false := decide_eq_false h2
      rw [if_neg h2]
      go_enter Try.func75, Try.ntmps75
      go_wp2_with (go_at_call 103; refine (nanI_calls _ _).mono ?_; rintro e w1 ⟨rfl, rfl⟩)
      go_ret
      exact ⟨rfl, Grew.refl _⟩
theorem or_step {l : List Int} {i : Nat} (hi : i < l.length) : orI (l.drop i) = if l[i] = 0 then orI (l.drop (i + 1)) else l[i] := by
  rw [List.drop_eq_getElem_cons hi]
  rfl
set_option maxHeartbeats 1000000 in
theorem or_calls (A : Option Addr) (cp : Nat) (l : List Int) (w : World) (h : (Kd.int .i64).C w A l.length l) (hl : l.length ≤ 1000) : Calls Try.prog 52 #[.slice A l.length cp] w fun e w' => e = .returned (.int .i64 (orI l)) ∧ Grew w w' := by
  have HC := Aside0.mk h
  have HL := Aside0.mk hl
  clear h hl
  go_enter Try.func52, Try.ntmps52
  go_wp2
  go_loopg [8] l.length (fun kq v8 w' => ∃ (i : Nat), v8 = .int .i64 (i : Int) ∧ Aside0 (kq + i = l.length) ∧ Aside0 (orI l = orI (l.drop i)) ∧ Aside0 (Grew w w'))
  case atStart => exact ⟨0, rfl, ⟨rfl⟩, ⟨rfl⟩, ⟨Grew.refl _⟩⟩
  case round =>
    obtain ⟨i, rfl, HK, HI, HB⟩ := hrel
    by_cases hlt : i < l.length
    · have hdx : decide ((i : Int) < (l.length : Int)) = true := decide_eq_true (by omega)
      have hi0 : (i : Int) < (l.length : Int) := by omega
      have hib : wrap64 ((i : Int) + 1) = (i : Int) + 1 := by have := HL.out; unfold wrap64; omega
      have HLT := Aside0.mk hlt
      obtain ⟨ad, ea, q0⟩ := Kd.at_int (Kd.C_below HC.out HB.out.1) (i : Int) (by omega) (by omega)
      rw [Int.toNat_natCast] at q0
      have hrd : rd l (i : Int) = l[i] := by simp [rd, List.getD_eq_getElem?_getD, List.getElem?_eq_getElem hlt]
      rw [hrd] at q0
      have HI2 := Aside0.mk (HI.out.trans (or_step hlt))
      generalize l[i] = x at q0 HI2
      subst ea
      by_cases hx : x = 0
      · have n1 : (x != 0) = false := by simp [hx]
        have HI3 := Aside0.mk (HI2.out.trans (if_pos hx))
        clear hx hrd
        go_wp2
        go_roundg (l.length - i - 1)
        case measure => have := HK.out; omega
        case rel => exact ⟨i + 1, by go_num, ⟨by have := HK.out; have := HLT.out; omega⟩, HI3, HB⟩
      · have n1 : (x != 0) = true := by simpa using hx
        have HI3 := Aside0.mk (HI2.out.trans (if_neg hx))
        clear hx hrd
        go_wp2
        go_ret
        exact ⟨by rw [HI3.out]; rfl, HB.out⟩
    · have hdx : decide ((i : Int) < (l.length : Int)) = false := decide_eq_false (by omega)
      have HE := Aside0.mk (HI.out.trans (show orI (l.drop i) = 0 by rw [List.drop_eq_nil_of_le (by omega)]; rfl))
      go_wp2
      go_ret
      exact ⟨by rw [HE.out]; rfl, HB.out⟩
end
section
open Go.Maps

theorem ints_blk {w : World} {rb : Nat} {l : List Int} (h : w.heap[rb]? = some (.cells (l.map (Value.int .i64)).toArray 3 (0, 0))) (hl : l.length ≤ 9223372036854775807) : (Kd.int .i64).C w (some ⟨rb, 0, none⟩) l.length l := by
  refine ⟨rfl, hl, fun _ => ⟨⟨rb, 0, none⟩, rfl, fun j p hj => ⟨[.int .i64 p], rfl, rfl, fun i u hu => ?_⟩⟩⟩
  cases i with
  | zero =>
    have e : u = .int .i64 p := (Option.some.inj hu).symm
    subst e
    have h1 := blk_at h (k := j) (v := .int .i64 p) (by simp [hj])
    show w.cell? ((⟨rb, 0, none⟩ : Addr).add (j * 1 + 0)) = _
    rw [show (⟨rb, 0, none⟩ : Addr).add (j * 1 + 0) = ⟨rb, j, none⟩ by simp [Addr.add]; omega]
    exact h1
  | succ i => simp at hu
/-- The map from bool to int. -/
def DB : DataW Unit := (DataW.map []).put (.bool true) (.lit (.int .i64 1))
set_option maxRecDepth 100000 in
theorem bmap_made (W : World) : ∃ W2, (Instr.mapUpdate 132 (.map (some W.heap.size)) (.bool true) (.int .i64 1)).run Try.prog (W.alloc (.map #[] 0)) = .ok () W2 ∧ W2.ownsMap Try.prog 4 (plainElem Try.prog 3) W.heap.size 1 DB ∧ Grew W W2 := by
  have h0 := World.ownsMap_made (H := Unit) W Try.prog 4 (plainElem Try.prog 3)
  obtain ⟨W2, h1, h2, h3⟩ := h0.update (bool_keyed Try.underlying4) Try.underlying132 (by unfold maxLen; omega) (keyOf_bool_mk Try.underlying4 true) (plainElem_int (H := Unit) Try.underlying3 (a := 1) (by decide))
  refine ⟨W2, h1, h2, ⟨h3.os, h3.tape, h3.output, Nat.le_trans (by simp) h3.size, fun k hk => ?_⟩, ?_⟩
  · rw [h3.block k (by simp; omega) (fun e => by have := Option.some.inj e; omega)]
    exact Below.heap_alloc W _ k hk
  · obtain ⟨es, clock, hb, hf, hs, hD⟩ := h0
    obtain ⟨es', clock', hrun, _⟩ := Maps.fit_store (R' := plainElem Try.prog 3) (bool_keyed Try.underlying4) Try.underlying132 hb hf (Nat.lt_of_le_of_lt hs (by unfold maxLen; omega)) (fun _ _ _ _ hz => hz) (keyOf_bool_mk Try.underlying4 true) (plainElem_int (H := Unit) Try.underlying3 (a := 1) (by decide))
    rw [hrun] at h1
    have e := (Result.ok.inj h1).2
    rw [← e]
    exact Nat.le_refl _
set_option maxRecDepth 100000 in
theorem bmap_look {W : World} {mb : Nat} (h : W.ownsMap Try.prog 4 (plainElem Try.prog 3) mb 1 DB) (x : Bool) : (Instr.lookup 132 (.map (some mb)) (.bool x) false).run Try.prog W = .ok (.int .i64 (b2i x)) W := by
  have hz : (zeroValue 3).run Try.prog W = .ok (.int .i64 0) W := by kernel_rfl
  obtain ⟨c, h1, h2, _⟩ := h.lookup_int (bool_keyed Try.underlying4) Try.underlying132 Try.underlying3 hz (keyOf_bool_mk Try.underlying4 x)
  rw [h1]
  have e : c = b2i x := by
    cases x with
    | true =>
      have h3 : DB.atKey (.bool true) (.lit (.int .i64 0)) = .lit (.int .i64 1) := by rfl
      rw [h3] at h2
      injection h2 with h2
      injection h2 with _ h2
      exact h2.symm
    | false =>
      have h3 : DB.atKey (.bool false) (.lit (.int .i64 0)) = .lit (.int .i64 0) := by rfl
      rw [h3] at h2
      injection h2 with h2
      injection h2 with _ h2
      exact h2.symm
  rw [e]
set_option maxHeartbeats 4000000 in
set_option maxRecDepth 100000 in
theorem cmpA_calls (x y : Ac) (w : World) : Calls Try.prog 55 #[.agg #[.int .i64 x.a, .int .i64 x.b, .bool x.s], .agg #[.int .i64 y.a, .int .i64 y.b, .bool y.s]] w fun e w' => e = .returned (.int .i64 (cmpA x y)) ∧ Grew w w' := by
  obtain ⟨xa, xb, xs⟩ := x
  obtain ⟨ya, yb, ys⟩ := y
  have hmm := @run_makeMap Try.prog
  have hsz : ((w.alloc (.cells #[.int .i64 xa, .int .i64 xb, .bool xs] 24)).alloc (.cells #[.int .i64 ya, .int .i64 yb, .bool ys] 24)).heap.size = w.heap.size + 1 + 1 := by simp
  obtain ⟨W0, hup, hown, hgr⟩ := bmap_made ((w.alloc (.cells #[.int .i64 xa, .int .i64 xb, .bool xs] 24)).alloc (.cells #[.int .i64 ya, .int .i64 yb, .bool ys] 24))
  have hg0 : Grew w ((w.alloc (.cells #[.int .i64 xa, .int .i64 xb, .bool xs] 24)).alloc (.cells #[.int .i64 ya, .int .i64 yb, .bool ys] 24)) := (Grew.alloc _ _).trans (Grew.alloc _ _)
  have HG0 := Aside0.mk (hg0.trans hgr)
  have hA : ((w.alloc (.cells #[.int .i64 xa, .int .i64 xb, .bool xs] 24)).alloc (.cells #[.int .i64 ya, .int .i64 yb, .bool ys] 24)).heap[w.heap.size]? = some (.cells #[.int .i64 xa, .int .i64 xb, .bool xs] 24 (0, 0)) := blk_below (blk_new w (.cells #[.int .i64 xa, .int .i64 xb, .bool xs] 24)) (below_alloc (Below.refl _ _) _)
  have hB : ((w.alloc (.cells #[.int .i64 xa, .int .i64 xb, .bool xs] 24)).alloc (.cells #[.int .i64 ya, .int .i64 yb, .bool ys] 24)).heap[w.heap.size + 1]? = some (.cells #[.int .i64 ya, .int .i64 yb, .bool ys] 24 (0, 0)) := by
    have h1 := blk_new (w.alloc (.cells #[.int .i64 xa, .int .i64 xb, .bool xs] 24)) (.cells #[.int .i64 ya, .int .i64 yb, .bool ys] 24)
    rw [World.size_alloc] at h1
    exact h1
  have hA2 := blk_below hA hgr.1
  have hB2 := blk_below hB hgr.1
  have HXA := Aside0.mk (fun (W : World) (h : Below W0.heap.size W0 W) => show W.cell? ⟨w.heap.size, 0, none⟩ = some (.int .i64 xa) ∧ W.cell? ⟨w.heap.size, 1, none⟩ = some (.int .i64 xb) ∧ W.cell? ⟨w.heap.size, 2, none⟩ = some (.bool xs) from ⟨blk_at (blk_below hA2 h) (k := 0) rfl, blk_at (blk_below hA2 h) (k := 1) rfl, blk_at (blk_below hA2 h) (k := 2) rfl⟩)
  have HXB := Aside0.mk (fun (W : World) (h : Below W0.heap.size W0 W) => show W.cell? ⟨w.heap.size + 1, 0, none⟩ = some (.int .i64 ya) ∧ W.cell? ⟨w.heap.size + 1, 1, none⟩ = some (.int .i64 yb) ∧ W.cell? ⟨w.heap.size + 1, 2, none⟩ = some (.bool ys) from ⟨blk_at (blk_below hB2 h) (k := 0) rfl, blk_at (blk_below hB2 h) (k := 1) rfl, blk_at (blk_below hB2 h) (k := 2) rfl⟩)
  rw [hsz] at hup hown
  have HLK := Aside0.mk (fun (W : World) (h : Below W0.heap.size W0 W) (x : Bool) => bmap_look (hown.kept (grown_of_below h none) (by simp)) x)
  clear hA hB hA2 hB2 hown hgr hg0 hsz
  go_enter Try.func55, Try.ntmps55
  go_wp2
  clear hup hmm
  refine start_ (n := 22) (S := fun w' => Grew W0 w') (ds := []) #[false, false, false, false, false, false, false, false, false, false, false, false, false, false, false, false, false, false, false, false, false, false] (by kernel_rfl) rfl rfl (Grew.drew _) (fun hHeld => ?_)
  refine pure_ (i := 0) (N := some 8) (v := ?_) (a' := ?_) #[true, false, false, false, false, false, false, false, false, false, false, false, false, false, false, false, false, false, false, false, false, false] rfl rfl (by kernel_rfl) (fun _ _ _ h => h) (Or.inl ⟨by rfl, ?_⟩) ?_ ?_
  rotate_left
  · intro w'
    go_simp
    with_reducible rfl
  rotate_left
  · simp only [Act.put, List.setIfInBounds_toArray, List.set_cons_zero, List.set_cons_succ, i64_w, i32_w]
    rfl
  refine take_ (i := 1) (N := some 9) (v := ?_) (a' := ?_) #[true, true, false, false, false, false, false, false, false, false, false, false, false, false, false, false, false, false, false, false, false, false] rfl rfl (by kernel_rfl) (fun _ _ _ h => h) (Or.inl ⟨by rfl, ?_⟩) hHeld ?_ ?_
  rotate_left
  · rintro w' s0
    obtain ⟨y0, y1, y2⟩ := HXA.out w' s0.1
    go_simp
    with_reducible rfl
  rotate_left
  · simp only [Act.put, List.setIfInBounds_toArray, List.set_cons_zero, List.set_cons_succ, i64_w, i32_w]
    rfl
  refine pure_ (i := 2) (N := some 10) (v := ?_) (a' := ?_) #[true, true, true, false, false, false, false, false, false, false, false, false, false, false, false, false, false, false, false, false, false, false] rfl rfl (by kernel_rfl) (fun _ _ _ h => h) (Or.inl ⟨by rfl, ?_⟩) ?_ ?_
  rotate_left
  · intro w'
    go_simp
    with_reducible rfl
  rotate_left
  · simp only [Act.put, List.setIfInBounds_toArray, List.set_cons_zero, List.set_cons_succ, i64_w, i32_w]
    rfl
  refine take_ (i := 3) (N := some 11) (v := ?_) (a' := ?_) #[true, true, true, true, false, false, false, false, false, false, false, false, false, false, false, false, false, false, false, false, false, false] rfl rfl (by kernel_rfl) (fun _ _ _ h => h) (Or.inl ⟨by rfl, ?_⟩) hHeld ?_ ?_
  rotate_left
  · rintro w' s0
    obtain ⟨z0, z1, z2⟩ := HXB.out w' s0.1
    go_simp
    with_reducible rfl
  rotate_left
  · simp only [Act.put, List.setIfInBounds_toArray, List.set_cons_zero, List.set_cons_succ, i64_w, i32_w]
    rfl
  refine pure_ (i := 5) (N := some 13) (v := ?_) (a' := ?_) #[true, true, true, true, false, true, false, false, false, false, false, false, false, false, false, false, false, false, false, false, false, false] rfl rfl (by kernel_rfl) (fun _ _ _ h => h) (Or.inl ⟨by rfl, ?_⟩) ?_ ?_
  rotate_left
  · intro w'
    go_simp
    with_reducible rfl
  rotate_left
  · simp only [Act.put, List.setIfInBounds_toArray, List.set_cons_zero, List.set_cons_succ, i64_w, i32_w]
    rfl
  refine take_ (i := 6) (N := some 14) (v := ?_) (a' := ?_) #[true, true, true, true, false, true, true, false, false, false, false, false, false, false, false, false, false, false, false, false, false, false] rfl rfl (by kernel_rfl) (fun _ _ _ h => h) (Or.inl ⟨by rfl, ?_⟩) hHeld ?_ ?_
  rotate_left
  · rintro w' s0
    obtain ⟨y0, y1, y2⟩ := HXA.out w' s0.1
    go_simp
    with_reducible rfl
  rotate_left
  · simp only [Act.put, List.setIfInBounds_toArray, List.set_cons_zero, List.set_cons_succ, i64_w, i32_w]
    rfl
  refine pure_ (i := 7) (N := some 15) (v := ?_) (a' := ?_) #[true, true, true, true, false, true, true, true, false, false, false, false, false, false, false, false, false, false, false, false, false, false] rfl rfl (by kernel_rfl) (fun _ _ _ h => h) (Or.inl ⟨by rfl, ?_⟩) ?_ ?_
  rotate_left
  · intro w'
    go_simp
    with_reducible rfl
  rotate_left
  · simp only [Act.put, List.setIfInBounds_toArray, List.set_cons_zero, List.set_cons_succ, i64_w, i32_w]
    rfl
  refine take_ (i := 8) (N := some 16) (v := ?_) (a' := ?_) #[true, true, true, true, false, true, true, true, true, false, false, false, false, false, false, false, false, false, false, false, false, false] rfl rfl (by kernel_rfl) (fun _ _ _ h => h) (Or.inl ⟨by rfl, ?_⟩) hHeld ?_ ?_
  rotate_left
  · rintro w' s0
    obtain ⟨z0, z1, z2⟩ := HXB.out w' s0.1
    go_simp
    with_reducible rfl
  rotate_left
  · simp only [Act.put, List.setIfInBounds_toArray, List.set_cons_zero, List.set_cons_succ, i64_w, i32_w]
    rfl
  refine pure_ (i := 10) (N := some 18) (v := ?_) (a' := ?_) #[true, true, true, true, false, true, true, true, true, false, true, false, false, false, false, false, false, false, false, false, false, false] rfl rfl (by kernel_rfl) (fun _ _ _ h => h) (Or.inl ⟨by rfl, ?_⟩) ?_ ?_
  rotate_left
  · intro w'
    go_simp
    with_reducible rfl
  rotate_left
  · simp only [Act.put, List.setIfInBounds_toArray, List.set_cons_zero, List.set_cons_succ, i64_w, i32_w]
    rfl
  refine pure_ (i := 11) (N := some 19) (v := ?_) (a' := ?_) #[true, true, true, true, false, true, true, true, true, false, true, true, false, false, false, false, false, false, false, false, false, false] rfl rfl (by kernel_rfl) (fun _ _ _ h => h) (Or.inl ⟨by rfl, ?_⟩) ?_ ?_
  rotate_left
  · intro w'
    go_simp
    with_reducible rfl
  rotate_left
  · simp only [Act.put, List.setIfInBounds_toArray, List.set_cons_zero, List.set_cons_succ, i64_w, i32_w]
    rfl
  refine take_ (i := 12) (N := some 20) (v := ?_) (a' := ?_) #[true, true, true, true, false, true, true, true, true, false, true, true, true, false, false, false, false, false, false, false, false, false] rfl rfl (by kernel_rfl) (fun _ _ _ h => h) (Or.inl ⟨by rfl, ?_⟩) hHeld ?_ ?_
  rotate_left
  · rintro w' s0
    obtain ⟨y0, y1, y2⟩ := HXA.out w' s0.1
    go_simp
    with_reducible rfl
  rotate_left
  · simp only [Act.put, List.setIfInBounds_toArray, List.set_cons_zero, List.set_cons_succ, i64_w, i32_w]
    rfl
  refine pure_ (i := 14) (N := some 22) (v := ?_) (a' := ?_) #[true, true, true, true, false, true, true, true, true, false, true, true, true, false, true, false, false, false, false, false, false, false] rfl rfl (by kernel_rfl) (fun _ _ _ h => h) (Or.inl ⟨by rfl, ?_⟩) ?_ ?_
  rotate_left
  · intro w'
    go_simp
    with_reducible rfl
  rotate_left
  · simp only [Act.put, List.setIfInBounds_toArray, List.set_cons_zero, List.set_cons_succ, i64_w, i32_w]
    rfl
  refine pure_ (i := 15) (N := some 23) (v := ?_) (a' := ?_) #[true, true, true, true, false, true, true, true, true, false, true, true, true, false, true, true, false, false, false, false, false, false] rfl rfl (by kernel_rfl) (fun _ _ _ h => h) (Or.inl ⟨by rfl, ?_⟩) ?_ ?_
  rotate_left
  · intro w'
    go_simp
    with_reducible rfl
  rotate_left
  · simp only [Act.put, List.setIfInBounds_toArray, List.set_cons_zero, List.set_cons_succ, i64_w, i32_w]
    rfl
  refine take_ (i := 16) (N := some 24) (v := ?_) (a' := ?_) #[true, true, true, true, false, true, true, true, true, false, true, true, true, false, true, true, true, false, false, false, false, false] rfl rfl (by kernel_rfl) (fun _ _ _ h => h) (Or.inl ⟨by rfl, ?_⟩) hHeld ?_ ?_
  rotate_left
  · rintro w' s0
    obtain ⟨z0, z1, z2⟩ := HXB.out w' s0.1
    go_simp
    with_reducible rfl
  rotate_left
  · simp only [Act.put, List.setIfInBounds_toArray, List.set_cons_zero, List.set_cons_succ, i64_w, i32_w]
    rfl
  refine take_ (i := 13) (N := some 21) (v := ?_) (a' := ?_) #[true, true, true, true, false, true, true, true, true, false, true, true, true, true, true, true, true, false, false, false, false, false] rfl rfl (by kernel_rfl) (fun _ _ _ h => h) (Or.inl ⟨by rfl, ?_⟩) hHeld ?_ ?_
  rotate_left
  · rintro w' s0
    have hl := HLK.out w' s0.1 xs
    go_simp
    with_reducible rfl
  rotate_left
  · simp only [Act.put, List.setIfInBounds_toArray, List.set_cons_zero, List.set_cons_succ, i64_w, i32_w]
    rfl
  refine take_ (i := 17) (N := some 25) (v := ?_) (a' := ?_) #[true, true, true, true, false, true, true, true, true, false, true, true, true, true, true, true, true, true, false, false, false, false] rfl rfl (by kernel_rfl) (fun _ _ _ h => h) (Or.inl ⟨by rfl, ?_⟩) hHeld ?_ ?_
  rotate_left
  · rintro w' s0
    have hl := HLK.out w' s0.1 ys
    go_simp
    with_reducible rfl
  rotate_left
  · simp only [Act.put, List.setIfInBounds_toArray, List.set_cons_zero, List.set_cons_succ, i64_w, i32_w]
    rfl
  refine one_ (i := 4) (N := some 12) #[true, true, true, true, true, true, true, true, true, false, true, true, true, true, true, true, true, true, false, false, false, false] rfl rfl (by kernel_rfl) (by decide) (fun K hK => ?_)
  refine goes_ Try.func75 (by kernel_rfl) rfl #[.int .i64 xa, .int .i64 ya] (by rfl) rfl rfl (by (try simp only [List.map_toArray, List.map_cons, List.map_nil]); first | done | rfl) ?_
  refine (cmpI_calls xa ya _).mono ?_
  rintro e2 w3 ⟨rfl, hb3⟩
  refine ⟨_, rfl, ?_⟩
  have hB := hHeld.trans hb3
  refine hK.out _ _ hB (fun _ => ?_)
  clear hK K hHeld hb3
  have hHeld := hB
  clear hB
  refine norm_ (a' := ?_) ?_ ?_
  rotate_left
  · show Act.put _ (some 12) _ = _
    simp only [Act.put, List.setIfInBounds_toArray, List.set_cons_zero, List.set_cons_succ, i64_w, i32_w]
    rfl
  refine one_ (i := 9) (N := some 17) #[true, true, true, true, true, true, true, true, true, true, true, true, true, true, true, true, true, true, false, false, false, false] rfl rfl (by kernel_rfl) (by decide) (fun K hK => ?_)
  refine goes_ Try.func75 (by kernel_rfl) rfl #[.int .i64 xb, .int .i64 yb] (by rfl) rfl rfl (by (try simp only [List.map_toArray, List.map_cons, List.map_nil]); first | done | rfl) ?_
  refine (cmpI_calls xb yb _).mono ?_
  rintro e2 w4 ⟨rfl, hb3⟩
  refine ⟨_, rfl, ?_⟩
  have hB := hHeld.trans hb3
  refine hK.out _ _ hB (fun _ => ?_)
  clear hK K hHeld hb3
  have hHeld := hB
  clear hB
  refine norm_ (a' := ?_) ?_ ?_
  rotate_left
  · show Act.put _ (some 17) _ = _
    simp only [Act.put, List.setIfInBounds_toArray, List.set_cons_zero, List.set_cons_succ, i64_w, i32_w]
    rfl
  refine one_ (i := 18) (N := some 26) #[true, true, true, true, true, true, true, true, true, true, true, true, true, true, true, true, true, true, true, false, false, false] rfl rfl (by kernel_rfl) (by decide) (fun K hK => ?_)
  refine goes_ Try.func75 (by kernel_rfl) rfl #[.int .i64 (b2i xs), .int .i64 (b2i ys)] (by rfl) rfl rfl (by (try simp only [List.map_toArray, List.map_cons, List.map_nil]); first | done | rfl) ?_
  refine (cmpI_calls (b2i xs) (b2i ys) _).mono ?_
  rintro e2 w5 ⟨rfl, hb3⟩
  refine ⟨_, rfl, ?_⟩
  have hB := hHeld.trans hb3
  refine hK.out _ _ hB (fun _ => ?_)
  clear hK K hHeld hb3
  have hHeld := hB
  clear hB
  refine norm_ (a' := ?_) ?_ ?_
  rotate_left
  · show Act.put _ (some 26) _ = _
    simp only [Act.put, List.setIfInBounds_toArray, List.set_cons_zero, List.set_cons_succ, i64_w, i32_w]
    rfl
  refine one_ (i := 19) (N := some 27) #[true, true, true, true, true, true, true, true, true, true, true, true, true, true, true, true, true, true, true, true, false, false] rfl rfl (by kernel_rfl) (by decide) (fun K hK => ?_)
  refine value_ (by rfl) rfl (w1 := World.alloc w5 (.cells #[.int .i64 (cmpI xa ya), .int .i64 (cmpI xb yb), .int .i64 (cmpI (b2i xs) (b2i ys))] 3)) (v := .slice (some ⟨w5.heap.size, 0, none⟩) 3 3) (by go_simp) ?_
  have hB := hHeld.trans (Grew.alloc w5 (.cells #[.int .i64 (cmpI xa ya), .int .i64 (cmpI xb yb), .int .i64 (cmpI (b2i xs) (b2i ys))] 3))
  have hrow := blk_new w5 (.cells #[.int .i64 (cmpI xa ya), .int .i64 (cmpI xb yb), .int .i64 (cmpI (b2i xs) (b2i ys))] 3)
  refine hK.out _ _ hB (fun _ => ?_)
  clear hK K hHeld
  have hHeld := hB
  clear hB
  refine norm_ (a' := ?_) ?_ ?_
  rotate_left
  · show Act.put _ (some 27) _ = _
    simp only [Act.put, List.setIfInBounds_toArray, List.set_cons_zero, List.set_cons_succ, i64_w, i32_w]
    rfl
  refine one_ (i := 20) (N := some 28) #[true, true, true, true, true, true, true, true, true, true, true, true, true, true, true, true, true, true, true, true, true, false] rfl rfl (by kernel_rfl) (by decide) (fun K hK => ?_)
  refine goes_ Try.func52 (by kernel_rfl) rfl #[.slice (some ⟨w5.heap.size, 0, none⟩) 3 3] (by rfl) rfl rfl (by (try simp only [List.map_toArray, List.map_cons, List.map_nil]); first | done | rfl) ?_
  refine (or_calls (some ⟨w5.heap.size, 0, none⟩) 3 [(cmpI xa ya), (cmpI xb yb), (cmpI (b2i xs) (b2i ys))] _ (ints_blk hrow (show (3 : Nat) ≤ 9223372036854775807 by decide)) (show (3 : Nat) ≤ 1000 by decide)).mono ?_
  rintro e2 w6 ⟨rfl, hb3⟩
  refine ⟨_, rfl, ?_⟩
  have hB := hHeld.trans hb3
  refine hK.out _ _ hB (fun _ => ?_)
  clear hK K hHeld hb3
  have hHeld := hB
  clear hB
  refine norm_ (a' := ?_) ?_ ?_
  rotate_left
  · show Act.put _ (some 28) _ = _
    simp only [Act.put, List.setIfInBounds_toArray, List.set_cons_zero, List.set_cons_succ, i64_w, i32_w]
    rfl
  refine pure_ (i := 21) (N := some 4) (v := ?_) (a' := ?_) #[true, true, true, true, true, true, true, true, true, true, true, true, true, true, true, true, true, true, true, true, true, true] rfl rfl (by kernel_rfl) (fun _ _ _ h => h) (Or.inl ⟨by rfl, ?_⟩) ?_ ?_
  rotate_left
  · intro w'
    go_simp
    with_reducible rfl
  rotate_left
  · simp only [Act.put, List.setIfInBounds_toArray, List.set_cons_zero, List.set_cons_succ, i64_w, i32_w]
    rfl
  refine done_ (by kernel_rfl) ?_
  go_wp2
  go_ret
  exact ⟨rfl, HG0.out.trans hHeld⟩
theorem cmpAs_step {a b : List Ac} {i : Nat} (ha : i < a.length) (hb : i < b.length) : cmpAs (a.drop i) (b.drop i) = if cmpA a[i] b[i] = 0 then cmpAs (a.drop (i + 1)) (b.drop (i + 1)) else cmpA a[i] b[i] := by
  rw [List.drop_eq_getElem_cons ha, List.drop_eq_getElem_cons hb]
  rfl
theorem cmpAs_long {a b : List Ac} {i : Nat} (ha : i < a.length) (hb : b.length ≤ i) : cmpAs (a.drop i) (b.drop i) = 1 := by
  rw [List.drop_eq_getElem_cons ha, List.drop_eq_nil_of_le hb]
  rfl
theorem cmpAs_end {a b : List Ac} {i : Nat} (ha : a.length ≤ i) : cmpAs (a.drop i) (b.drop i) = if i < b.length then -1 else 0 := by
  rw [List.drop_eq_nil_of_le ha]
  split
  · rename_i h
    rw [List.drop_eq_getElem_cons h]
    rfl
  · rw [List.drop_eq_nil_of_le (by omega)]
    rfl
set_option maxHeartbeats 4000000 in
set_option maxRecDepth 100000 in
theorem cmpAs_calls (A B : Option Addr) (p q : Nat) (a b : List Ac) (w : World) (ha : kAc.C w A a.length a) (hb : kAc.C w B b.length b) : Calls Try.prog 54 #[.slice A a.length p, .slice B b.length q, .func (.func 55) #[] #[]] w fun e w' => e = .returned (.int .i64 (cmpAs a b)) ∧ Grew w w' := by
  have HCA := Aside0.mk ha
  have HCB := Aside0.mk hb
  have HLA := Aside0.mk (show a.length ≤ 9223372036854775807 from ha.2.1)
  clear ha hb
  go_enter Try.func54, Try.ntmps54
  go_wp2
  go_loopg [13] a.length (fun kq v13 w' => ∃ (i : Nat), v13 = .int .i64 (i : Int) ∧ Aside0 (kq + i = a.length) ∧ Aside0 (cmpAs a b = cmpAs (a.drop i) (b.drop i)) ∧ Aside0 (i ≤ b.length) ∧ Aside0 (Grew w w'))
  case atStart => exact ⟨0, rfl, ⟨rfl⟩, ⟨rfl⟩, ⟨Nat.zero_le _⟩, ⟨Grew.refl _⟩⟩
  case round =>
    obtain ⟨i, rfl, HK, HI, HIB, HG⟩ := hrel
    by_cases hlt : i < a.length
    · have hdx : decide ((i : Int) < (a.length : Int)) = true := decide_eq_true (by omega)
      have hi0 : (i : Int) < (a.length : Int) := by omega
      have hib : wrap64 ((i : Int) + 1) = (i : Int) + 1 := by have := HLA.out; unfold wrap64; omega
      have HLT := Aside0.mk hlt
      obtain ⟨ad, ea, hqa⟩ := ac_cells (Kd.C_below HCA.out HG.out.1) i hlt
      obtain ⟨q0, q1, q2⟩ := hqa wr (Below.refl _ _)
      by_cases hlt2 : i < b.length
      · have hdy : decide ((b.length : Int) ≤ (i : Int)) = false := decide_eq_false (by omega)
        have hdz : ¬ b.length ≤ i := by omega
        have hi1 : (i : Int) < (b.length : Int) := by omega
        have HLT2 := Aside0.mk hlt2
        obtain ⟨bd, eb, hqb⟩ := ac_cells (Kd.C_below HCB.out HG.out.1) i hlt2
        have HI2 := Aside0.mk (HI.out.trans (cmpAs_step hlt hlt2))
        generalize a[i] = x at hqa HI2 q0 q1 q2
        generalize b[i] = y at hqb HI2
        obtain ⟨xa, xb, xs⟩ := x
        obtain ⟨ya, yb, ys⟩ := y
        dsimp only at hqa hqb q0 q1 q2
        have HCM := Aside0.mk (fun W => cmpA_calls ⟨xa, xb, xs⟩ ⟨ya, yb, ys⟩ W)
        have HG1 := Aside0.mk (HG.out.trans (Grew.alloc wr (.cells #[.int .i64 xa, .int .i64 xb, .bool xs] 24)))
        have HG2 := Aside0.mk ((HG.out.trans (Grew.alloc wr (.cells #[.int .i64 xa, .int .i64 xb, .bool xs] 24))).trans (Grew.alloc (wr.alloc (.cells #[.int .i64 xa, .int .i64 xb, .bool xs] 24)) (.cells #[.int .i64 ya, .int .i64 yb, .bool ys] 24)))
        obtain ⟨z0, z1, z2⟩ := hqb (wr.alloc (.cells #[.int .i64 xa, .int .i64 xb, .bool xs] 24)) (below_alloc (Below.refl _ _) _)
        subst ea
        subst eb
        clear hqa hqb
        generalize cmpA ⟨xa, xb, xs⟩ ⟨ya, yb, ys⟩ = r at HI2 HCM
        by_cases hr : r = 0
        · have n1 : (r != 0) = false := by simp [hr]
          have HI3 := Aside0.mk (HI2.out.trans (if_pos hr))
          clear hr
          go_wp2_with (go_at_call 55; refine (HCM.out _).mono ?_; rintro e w5 ⟨rfl, hb5⟩; have HG5 := Aside0.mk (HG2.out.trans hb5); clear hb5)
          go_roundg (a.length - i - 1)
          case measure => have := HK.out; omega
          case rel => exact ⟨i + 1, by go_num, ⟨by have := HK.out; have := HLT.out; omega⟩, HI3, ⟨by have := HLT2.out; omega⟩, HG5⟩
        · have n1 : (r != 0) = true := by simpa using hr
          have HI3 := Aside0.mk (HI2.out.trans (if_neg hr))
          clear hr
          go_wp2_with (go_at_call 55; refine (HCM.out _).mono ?_; rintro e w5 ⟨rfl, hb5⟩; have HG5 := Aside0.mk (HG2.out.trans hb5); clear hb5)
          go_ret
          exact ⟨by rw [HI3.out]; rfl, HG5.out⟩
      · have hdy : decide ((b.length : Int) ≤ (i : Int)) = true := decide_eq_true (by omega)
        have hdz : b.length ≤ i := by omega
        have HE := Aside0.mk (HI.out.trans (cmpAs_long hlt (by omega)))
        generalize a[i] = x at hqa q0 q1 q2
        obtain ⟨xa, xb, xs⟩ := x
        dsimp only at hqa q0 q1 q2
        have HG1 := Aside0.mk (HG.out.trans (Grew.alloc wr (.cells #[.int .i64 xa, .int .i64 xb, .bool xs] 24)))
        subst ea
        clear hqa
        go_wp2
        go_ret
        exact ⟨by rw [HE.out]; rfl, HG1.out⟩
    · have hdx : decide ((i : Int) < (a.length : Int)) = false := decide_eq_false (by omega)
      have hia : i = a.length := by have := HK.out; omega
      have HE := HI.out.trans (cmpAs_end (b := b) (show a.length ≤ i by omega))
      by_cases h2 : a.length < b.length
      · have d1 : decide ((a.length : Int) < (b.length : Int)) = true := decide_eq_true (by omega)
        have HE2 := Aside0.mk (HE.trans (if_pos (by omega)))
        clear HE hia
        go_wp2
        go_ret
        exact ⟨by rw [HE2.out]; rfl, HG.out⟩
      · have d1 : decide ((a.length : Int) < (b.length : Int)) = false := decide_eq_false (by omega)
        have HE2 := Aside0.mk (HE.trans (if_neg (by omega)))
        clear HE hia
        go_wp2
        go_ret
        exact ⟨by rw [HE2.out]; rfl, HG.out⟩
set_option maxHeartbeats 4000000 in
set_option maxRecDepth 100000 in
theorem cmpC_calls (A B : Option Addr) (p q : Nat) (a b : Cl) (w : World) (ha : kAc.C w A a.arcs.length a.arcs) (hb : kAc.C w B b.arcs.length b.arcs) : Calls Try.prog 51 #[.agg #[.string a.src, .string a.dst, .slice A a.arcs.length p], .agg #[.string b.src, .string b.dst, .slice B b.arcs.length q]] w fun e w' => e = .returned (.int .i64 (cmpC a b)) ∧ Grew w w' := by
  have hg0 : Grew w ((w.alloc (.cells #[.string a.src, .string a.dst, .slice A a.arcs.length p] 34)).alloc (.cells #[.string b.src, .string b.dst, .slice B b.arcs.length q] 34)) := (Grew.alloc _ _).trans (Grew.alloc _ _)
  have HG0 := Aside0.mk hg0
  have HBA : Aside0 (Blk ((w.alloc (.cells #[.string a.src, .string a.dst, .slice A a.arcs.length p] 34)).alloc (.cells #[.string b.src, .string b.dst, .slice B b.arcs.length q] 34)) w.heap.size a A p) := ⟨blk_below (blk_new w _) (below_alloc (Below.refl _ _) _)⟩
  have HBB : Aside0 (Blk ((w.alloc (.cells #[.string a.src, .string a.dst, .slice A a.arcs.length p] 34)).alloc (.cells #[.string b.src, .string b.dst, .slice B b.arcs.length q] 34)) (w.heap.size + 1) b B q) := ⟨by
    have h1 := blk_new (w.alloc (.cells #[.string a.src, .string a.dst, .slice A a.arcs.length p] 34)) (.cells #[.string b.src, .string b.dst, .slice B b.arcs.length q] 34)
    rw [World.size_alloc] at h1
    exact h1⟩
  have HCF0 := Aside0.mk (fun (W : World) (h : Below w.heap.size w W) => cmpAs_calls A B p q a.arcs b.arcs W (Kd.C_below ha h) (Kd.C_below hb h))
  clear ha hb hg0
  go_enter Try.func51, Try.ntmps51
  go_wp2
  generalize (w.alloc (.cells #[.string a.src, .string a.dst, .slice A a.arcs.length p] 34)).alloc (.cells #[.string b.src, .string b.dst, .slice B b.arcs.length q] 34) = W0 at HG0 HBA HBB ⊢
  have HCF := Aside0.mk (fun (W : World) (h : Below W0.heap.size W0 W) => HCF0.out W (below_step HG0.out.1 h))
  refine start_ (n := 18) (S := fun w' => Grew W0 w') (ds := []) #[false, false, false, false, false, false, false, false, false, false, false, false, false, false, false, false, false, false] (by kernel_rfl) rfl rfl (Grew.drew _) (fun hHeld => ?_)
  refine pure_ (i := 0) (N := some 5) (v := ?_) (a' := ?_) #[true, false, false, false, false, false, false, false, false, false, false, false, false, false, false, false, false, false] rfl rfl (by kernel_rfl) (fun _ _ _ h => h) (Or.inl ⟨by rfl, ?_⟩) ?_ ?_
  rotate_left
  · intro w'
    go_simp
    with_reducible rfl
  rotate_left
  · simp only [Act.put, List.setIfInBounds_toArray, List.set_cons_zero, List.set_cons_succ, i64_w, i32_w]
    rfl
  refine take_ (i := 1) (N := some 6) (v := ?_) (a' := ?_) #[true, true, false, false, false, false, false, false, false, false, false, false, false, false, false, false, false, false] rfl rfl (by kernel_rfl) (fun _ _ _ h => h) (Or.inl ⟨by rfl, ?_⟩) hHeld ?_ ?_
  rotate_left
  · rintro w' s0
    obtain ⟨y0, y1, y2⟩ := Blk.cells (HBA.out.go s0.1)
    go_simp
    with_reducible rfl
  rotate_left
  · simp only [Act.put, List.setIfInBounds_toArray, List.set_cons_zero, List.set_cons_succ, i64_w, i32_w]
    rfl
  refine pure_ (i := 2) (N := some 7) (v := ?_) (a' := ?_) #[true, true, true, false, false, false, false, false, false, false, false, false, false, false, false, false, false, false] rfl rfl (by kernel_rfl) (fun _ _ _ h => h) (Or.inl ⟨by rfl, ?_⟩) ?_ ?_
  rotate_left
  · intro w'
    go_simp
    with_reducible rfl
  rotate_left
  · simp only [Act.put, List.setIfInBounds_toArray, List.set_cons_zero, List.set_cons_succ, i64_w, i32_w]
    rfl
  refine take_ (i := 3) (N := some 8) (v := ?_) (a' := ?_) #[true, true, true, true, false, false, false, false, false, false, false, false, false, false, false, false, false, false] rfl rfl (by kernel_rfl) (fun _ _ _ h => h) (Or.inl ⟨by rfl, ?_⟩) hHeld ?_ ?_
  rotate_left
  · rintro w' s0
    obtain ⟨z0, z1, z2⟩ := Blk.cells (HBB.out.go s0.1)
    go_simp
    with_reducible rfl
  rotate_left
  · simp only [Act.put, List.setIfInBounds_toArray, List.set_cons_zero, List.set_cons_succ, i64_w, i32_w]
    rfl
  refine pure_ (i := 5) (N := some 10) (v := ?_) (a' := ?_) #[true, true, true, true, false, true, false, false, false, false, false, false, false, false, false, false, false, false] rfl rfl (by kernel_rfl) (fun _ _ _ h => h) (Or.inl ⟨by rfl, ?_⟩) ?_ ?_
  rotate_left
  · intro w'
    go_simp
    with_reducible rfl
  rotate_left
  · simp only [Act.put, List.setIfInBounds_toArray, List.set_cons_zero, List.set_cons_succ, i64_w, i32_w]
    rfl
  refine take_ (i := 6) (N := some 11) (v := ?_) (a' := ?_) #[true, true, true, true, false, true, true, false, false, false, false, false, false, false, false, false, false, false] rfl rfl (by kernel_rfl) (fun _ _ _ h => h) (Or.inl ⟨by rfl, ?_⟩) hHeld ?_ ?_
  rotate_left
  · rintro w' s0
    obtain ⟨y0, y1, y2⟩ := Blk.cells (HBA.out.go s0.1)
    go_simp
    with_reducible rfl
  rotate_left
  · simp only [Act.put, List.setIfInBounds_toArray, List.set_cons_zero, List.set_cons_succ, i64_w, i32_w]
    rfl
  refine pure_ (i := 7) (N := some 12) (v := ?_) (a' := ?_) #[true, true, true, true, false, true, true, true, false, false, false, false, false, false, false, false, false, false] rfl rfl (by kernel_rfl) (fun _ _ _ h => h) (Or.inl ⟨by rfl, ?_⟩) ?_ ?_
  rotate_left
  · intro w'
    go_simp
    with_reducible rfl
  rotate_left
  · simp only [Act.put, List.setIfInBounds_toArray, List.set_cons_zero, List.set_cons_succ, i64_w, i32_w]
    rfl
  refine take_ (i := 8) (N := some 13) (v := ?_) (a' := ?_) #[true, true, true, true, false, true, true, true, true, false, false, false, false, false, false, false, false, false] rfl rfl (by kernel_rfl) (fun _ _ _ h => h) (Or.inl ⟨by rfl, ?_⟩) hHeld ?_ ?_
  rotate_left
  · rintro w' s0
    obtain ⟨z0, z1, z2⟩ := Blk.cells (HBB.out.go s0.1)
    go_simp
    with_reducible rfl
  rotate_left
  · simp only [Act.put, List.setIfInBounds_toArray, List.set_cons_zero, List.set_cons_succ, i64_w, i32_w]
    rfl
  refine pure_ (i := 10) (N := some 15) (v := ?_) (a' := ?_) #[true, true, true, true, false, true, true, true, true, false, true, false, false, false, false, false, false, false] rfl rfl (by kernel_rfl) (fun _ _ _ h => h) (Or.inl ⟨by rfl, ?_⟩) ?_ ?_
  rotate_left
  · intro w'
    go_simp
    with_reducible rfl
  rotate_left
  · simp only [Act.put, List.setIfInBounds_toArray, List.set_cons_zero, List.set_cons_succ, i64_w, i32_w]
    rfl
  refine take_ (i := 11) (N := some 16) (v := ?_) (a' := ?_) #[true, true, true, true, false, true, true, true, true, false, true, true, false, false, false, false, false, false] rfl rfl (by kernel_rfl) (fun _ _ _ h => h) (Or.inl ⟨by rfl, ?_⟩) hHeld ?_ ?_
  rotate_left
  · rintro w' s0
    obtain ⟨y0, y1, y2⟩ := Blk.cells (HBA.out.go s0.1)
    go_simp
    with_reducible rfl
  rotate_left
  · simp only [Act.put, List.setIfInBounds_toArray, List.set_cons_zero, List.set_cons_succ, i64_w, i32_w]
    rfl
  refine pure_ (i := 12) (N := some 17) (v := ?_) (a' := ?_) #[true, true, true, true, false, true, true, true, true, false, true, true, true, false, false, false, false, false] rfl rfl (by kernel_rfl) (fun _ _ _ h => h) (Or.inl ⟨by rfl, ?_⟩) ?_ ?_
  rotate_left
  · intro w'
    go_simp
    with_reducible rfl
  rotate_left
  · simp only [Act.put, List.setIfInBounds_toArray, List.set_cons_zero, List.set_cons_succ, i64_w, i32_w]
    rfl
  refine take_ (i := 13) (N := some 18) (v := ?_) (a' := ?_) #[true, true, true, true, false, true, true, true, true, false, true, true, true, true, false, false, false, false] rfl rfl (by kernel_rfl) (fun _ _ _ h => h) (Or.inl ⟨by rfl, ?_⟩) hHeld ?_ ?_
  rotate_left
  · rintro w' s0
    obtain ⟨z0, z1, z2⟩ := Blk.cells (HBB.out.go s0.1)
    go_simp
    with_reducible rfl
  rotate_left
  · simp only [Act.put, List.setIfInBounds_toArray, List.set_cons_zero, List.set_cons_succ, i64_w, i32_w]
    rfl
  refine one_ (i := 4) (N := some 9) #[true, true, true, true, true, true, true, true, true, false, true, true, true, true, false, false, false, false] rfl rfl (by kernel_rfl) (by decide) (fun K hK => ?_)
  refine goes_ Try.func53 (by kernel_rfl) rfl #[.string a.src, .string b.src] (by rfl) rfl rfl (by (try simp only [List.map_toArray, List.map_cons, List.map_nil]); first | done | rfl) ?_
  refine (cmpS_calls a.src b.src _).mono ?_
  rintro e2 w3 ⟨rfl, hb3⟩
  refine ⟨_, rfl, ?_⟩
  have hB := hHeld.trans hb3
  refine hK.out _ _ hB (fun _ => ?_)
  clear hK K hHeld hb3
  have hHeld := hB
  clear hB
  refine norm_ (a' := ?_) ?_ ?_
  rotate_left
  · show Act.put _ (some 9) _ = _
    simp only [Act.put, List.setIfInBounds_toArray, List.set_cons_zero, List.set_cons_succ, i64_w, i32_w]
    rfl
  refine one_ (i := 9) (N := some 14) #[true, true, true, true, true, true, true, true, true, true, true, true, true, true, false, false, false, false] rfl rfl (by kernel_rfl) (by decide) (fun K hK => ?_)
  refine goes_ Try.func53 (by kernel_rfl) rfl #[.string a.dst, .string b.dst] (by rfl) rfl rfl (by (try simp only [List.map_toArray, List.map_cons, List.map_nil]); first | done | rfl) ?_
  refine (cmpS_calls a.dst b.dst _).mono ?_
  rintro e2 w4 ⟨rfl, hb3⟩
  refine ⟨_, rfl, ?_⟩
  have hB := hHeld.trans hb3
  refine hK.out _ _ hB (fun _ => ?_)
  clear hK K hHeld hb3
  have hHeld := hB
  clear hB
  refine norm_ (a' := ?_) ?_ ?_
  rotate_left
  · show Act.put _ (some 14) _ = _
    simp only [Act.put, List.setIfInBounds_toArray, List.set_cons_zero, List.set_cons_succ, i64_w, i32_w]
    rfl
  refine one_ (i := 14) (N := some 19) #[true, true, true, true, true, true, true, true, true, true, true, true, true, true, true, false, false, false] rfl rfl (by kernel_rfl) (by decide) (fun K hK => ?_)
  refine goes_ Try.func54 (by kernel_rfl) rfl #[.slice A a.arcs.length p, .slice B b.arcs.length q, .func (.func 55) #[] #[]] (by rfl) rfl rfl (by (try simp only [List.map_toArray, List.map_cons, List.map_nil]); first | done | rfl) ?_
  refine (HCF.out _ hHeld.1).mono ?_
  rintro e2 w5 ⟨rfl, hb3⟩
  refine ⟨_, rfl, ?_⟩
  have hB := hHeld.trans hb3
  refine hK.out _ _ hB (fun _ => ?_)
  clear hK K hHeld hb3
  have hHeld := hB
  clear hB
  refine norm_ (a' := ?_) ?_ ?_
  rotate_left
  · show Act.put _ (some 19) _ = _
    simp only [Act.put, List.setIfInBounds_toArray, List.set_cons_zero, List.set_cons_succ, i64_w, i32_w]
    rfl
  refine one_ (i := 15) (N := some 20) #[true, true, true, true, true, true, true, true, true, true, true, true, true, true, true, true, false, false] rfl rfl (by kernel_rfl) (by decide) (fun K hK => ?_)
  refine value_ (by rfl) rfl (w1 := World.alloc w5 (.cells #[.int .i64 (cmpS a.src b.src), .int .i64 (cmpS a.dst b.dst), .int .i64 (cmpAs a.arcs b.arcs)] 3)) (v := .slice (some ⟨w5.heap.size, 0, none⟩) 3 3) (by go_simp) ?_
  have hB := hHeld.trans (Grew.alloc w5 (.cells #[.int .i64 (cmpS a.src b.src), .int .i64 (cmpS a.dst b.dst), .int .i64 (cmpAs a.arcs b.arcs)] 3))
  have hrow := blk_new w5 (.cells #[.int .i64 (cmpS a.src b.src), .int .i64 (cmpS a.dst b.dst), .int .i64 (cmpAs a.arcs b.arcs)] 3)
  refine hK.out _ _ hB (fun _ => ?_)
  clear hK K hHeld
  have hHeld := hB
  clear hB
  refine norm_ (a' := ?_) ?_ ?_
  rotate_left
  · show Act.put _ (some 20) _ = _
    simp only [Act.put, List.setIfInBounds_toArray, List.set_cons_zero, List.set_cons_succ, i64_w, i32_w]
    rfl
  refine one_ (i := 16) (N := some 21) #[true, true, true, true, true, true, true, true, true, true, true, true, true, true, true, true, true, false] rfl rfl (by kernel_rfl) (by decide) (fun K hK => ?_)
  refine goes_ Try.func52 (by kernel_rfl) rfl #[.slice (some ⟨w5.heap.size, 0, none⟩) 3 3] (by rfl) rfl rfl (by (try simp only [List.map_toArray, List.map_cons, List.map_nil]); first | done | rfl) ?_
  refine (or_calls (some ⟨w5.heap.size, 0, none⟩) 3 [(cmpS a.src b.src), (cmpS a.dst b.dst), (cmpAs a.arcs b.arcs)] _ (ints_blk hrow (show (3 : Nat) ≤ 9223372036854775807 by decide)) (show (3 : Nat) ≤ 1000 by decide)).mono ?_
  rintro e2 w6 ⟨rfl, hb3⟩
  refine ⟨_, rfl, ?_⟩
  have hB := hHeld.trans hb3
  refine hK.out _ _ hB (fun _ => ?_)
  clear hK K hHeld hb3
  have hHeld := hB
  clear hB
  refine norm_ (a' := ?_) ?_ ?_
  rotate_left
  · show Act.put _ (some 21) _ = _
    simp only [Act.put, List.setIfInBounds_toArray, List.set_cons_zero, List.set_cons_succ, i64_w, i32_w]
    rfl
  refine pure_ (i := 17) (N := some 4) (v := ?_) (a' := ?_) #[true, true, true, true, true, true, true, true, true, true, true, true, true, true, true, true, true, true] rfl rfl (by kernel_rfl) (fun _ _ _ h => h) (Or.inl ⟨by rfl, ?_⟩) ?_ ?_
  rotate_left
  · intro w'
    go_simp
    with_reducible rfl
  rotate_left
  · simp only [Act.put, List.setIfInBounds_toArray, List.set_cons_zero, List.set_cons_succ, i64_w, i32_w]
    rfl
  refine done_ (by kernel_rfl) ?_
  go_wp2
  go_ret
  exact ⟨rfl, HG0.out.trans hHeld⟩
end
section
open Go.Sort (grow putRow SWO flatK get_flatK size_flatK HoldsK holds_putRow holds_ahead size_putRow putRowK PermIn SortedIn)

/-- slices.SortFunc of this program, as the shelf's contract names its parts. -/
def lSort_ren : Go.Shelf.Ren := ⟨fun | 6 => 50 | 15 => 73 | 14 => 72 | 28 => 101 | 29 => 102 | 20 => 93 | 21 => 94 | 22 => 95 | 23 => 96 | 24 => 97 | 25 => 98 | 26 => 99 | 27 => 100 | 46 => 128 | 47 => 129 | 48 => 130 | 49 => 131 | 50 => 132 | 57 => 147 | n => n, fun | 22 => 22 | 24 => 34 | 25 => 102 | 3 => 3 | 39 => 130 | 0 => 0 | 53 => 170 | 55 => 172 | 4 => 4 | 46 => 163 | 45 => 162 | 50 => 167 | 5 => 5 | 9 => 9 | 66 => 202 | 70 => 188 | 76 => 224 | 77 => 225 | n => n, fun | n => n⟩
theorem lSort : Go.Proofs.SlLaysF0.n6 Try.prog lSort_ren := {
  mixed := by kernel_rfl,
  f6 := ⟨Try.f50.name, by decide, Try.func50.trans (congrArg some (by kernel_rfl))⟩,
  f14 := ⟨Try.f72.name, by decide, Try.func72.trans (congrArg some (by kernel_rfl))⟩,
  f15 := Try.func73.trans (congrArg some (by kernel_rfl)),
  f20 := ⟨Try.f93.name, by decide, Try.func93.trans (congrArg some (by kernel_rfl))⟩,
  f21 := ⟨Try.f94.name, by decide, Try.func94.trans (congrArg some (by kernel_rfl))⟩,
  f22 := ⟨Try.f95.name, by decide, Try.func95.trans (congrArg some (by kernel_rfl))⟩,
  f23 := ⟨Try.f96.name, by decide, Try.func96.trans (congrArg some (by kernel_rfl))⟩,
  f24 := ⟨Try.f97.name, by decide, Try.func97.trans (congrArg some (by kernel_rfl))⟩,
  f25 := ⟨Try.f98.name, by decide, Try.func98.trans (congrArg some (by kernel_rfl))⟩,
  f26 := ⟨Try.f99.name, by decide, Try.func99.trans (congrArg some (by kernel_rfl))⟩,
  f27 := ⟨Try.f100.name, by decide, Try.func100.trans (congrArg some (by kernel_rfl))⟩,
  f28 := Try.func101.trans (congrArg some (by kernel_rfl)),
  f29 := Try.func102.trans (congrArg some (by kernel_rfl)),
  f46 := ⟨Try.f128.name, by decide, Try.func128.trans (congrArg some (by kernel_rfl))⟩,
  f47 := Try.func129.trans (congrArg some (by kernel_rfl)),
  f48 := Try.func130.trans (congrArg some (by kernel_rfl)),
  f49 := ⟨Try.f131.name, by decide, Try.func131.trans (congrArg some (by kernel_rfl))⟩,
  f50 := ⟨Try.f132.name, by decide, Try.func132.trans (congrArg some (by kernel_rfl))⟩,
  f57 := ⟨Try.f147.name, by decide, Try.func147.trans (congrArg some (by kernel_rfl))⟩,
  t0 := Try.underlying0,
  a0 := Try.isAgg0,
  z0 := Try.sizeOf0,
  v0 := Try.zeroValue0,
  t3 := Try.underlying3,
  a3 := Try.isAgg3,
  z3 := Try.sizeOf3,
  v3 := Try.zeroValue3,
  t4 := Try.underlying4,
  a4 := Try.isAgg4,
  z4 := Try.sizeOf4,
  v4 := Try.zeroValue4,
  t5 := Try.underlying5,
  a5 := Try.isAgg5,
  z5 := Try.sizeOf5,
  v5 := Try.zeroValue5,
  t9 := Try.underlying9,
  a9 := Try.isAgg9,
  z9 := Try.sizeOf9,
  v9 := Try.zeroValue9,
  t22 := Try.underlying22,
  a22 := Try.isAgg22,
  z22 := Try.sizeOf22,
  v22 := Try.zeroValue22,
  t25 := Try.underlying102,
  a25 := Try.isAgg102,
  z25 := Try.sizeOf102,
  v25 := Try.zeroValue102,
  t39 := Try.underlying130,
  a39 := Try.isAgg130,
  z39 := Try.sizeOf130,
  v39 := Try.zeroValue130,
  t45 := Try.underlying162,
  a45 := Try.isAgg162,
  z45 := Try.sizeOf162,
  v45 := Try.zeroValue162,
  t46 := Try.underlying163,
  a46 := Try.isAgg163,
  z46 := Try.sizeOf163,
  v46 := Try.zeroValue163,
  t50 := Try.underlying167,
  a50 := Try.isAgg167,
  z50 := Try.sizeOf167,
  v50 := Try.zeroValue167,
  t53 := Try.underlying170,
  a53 := Try.isAgg170,
  z53 := Try.sizeOf170,
  v53 := Try.zeroValue170,
  t55 := Try.underlying172,
  a55 := Try.isAgg172,
  z55 := Try.sizeOf172,
  v55 := Try.zeroValue172,
  t66 := Try.underlying202,
  a66 := Try.isAgg202,
  z66 := Try.sizeOf202,
  v66 := Try.zeroValue202,
  t70 := Try.underlying188,
  a70 := Try.isAgg188,
  z70 := Try.sizeOf188,
  v70 := Try.zeroValue188,
  t76 := Try.underlying224,
  a76 := Try.isAgg224,
  z76 := Try.sizeOf224,
  v76 := Try.zeroValue224,
  t77 := Try.underlying225,
  a77 := Try.isAgg225,
  z77 := Try.sizeOf225,
  v77 := Try.zeroValue225
}
section
variable (p : Option Addr) (cap : Nat) (fv : Value)
set_option maxHeartbeats 2000000 in
theorem ins_none (w : World) : Calls Try.prog 93 #[.slice p 0 cap, .int .i64 0, .int .i64 0, fv] w fun e w' => e = .returned (.tuple #[]) ∧ w' = w := by
  go_enter Try.func93, Try.ntmps93
  go_wp2
  refine wp_loop_rounds 1 ?_
  rw [rounds_succ]
  go_wp2
  go_end0
  exact ⟨rfl, rfl⟩
set_option maxHeartbeats 2000000 in
theorem pdq_none (lim : Int) (w : World) : Calls Try.prog 72 #[.slice p 0 cap, .int .i64 0, .int .i64 0, .int .i64 lim, fv] w fun e w' => e = .returned (.tuple #[]) ∧ w' = w := by
  go_enter Try.func72, Try.ntmps72
  go_wp2
  refine wp_loop_rounds 1 ?_
  rw [rounds_succ]
  go_wp2_with (go_at_call 93; refine (ins_none p cap fv _).mono ?_; rintro e w' ⟨rfl, rfl⟩)
  (try simp only [Exit.inBlock, Exit.then]); refine bodyPost_ret (results_none rfl _ _ _) rfl ?_
  exact ⟨rfl, rfl⟩
set_option maxHeartbeats 2000000 in
theorem sort_none (w : World) : Calls Try.prog 50 #[.slice p 0 cap, fv] w fun e w' => e = .returned (.tuple #[]) ∧ w' = w := by
  have hl := Go.Proofs.Any.bits_Len (Go.Proofs.SlLaysF0.n15.bits (P := Try.prog) (ρ := lSort_ren) { lSort with }) 0 w (by omega) (by omega)
  change Calls Try.prog 73 _ _ _ at hl
  go_enter Try.func50, Try.ntmps50
  go_wp2_with (first | (go_at_call 73; refine hl.mono ?_; rintro e w' ⟨rfl, rfl⟩) | (go_at_call 72; refine (pdq_none p cap fv _ _).mono ?_; rintro e w' ⟨rfl, rfl⟩))
  go_end0
  exact ⟨rfl, rfl⟩
end

/-- A call in a row, with what its slice of arcs is; the arcs lie outside the row's block. -/
def CxOk (w : World) (g : Nat) (x : Cl × Option Addr × Nat) : Prop := x.1.arcs.length ≤ x.2.2 ∧ ∀ W : World, (∀ k, k < w.heap.size → k ≠ g → W.heap[k]? = w.heap[k]?) → kAc.C W x.2.1 x.1.arcs.length x.1.arcs
def Cx (w : World) (g : Nat) : Type := { x : Cl × Option Addr × Nat // CxOk w g x }
instance (w : World) (g : Nat) : Inhabited (Cx w g) := ⟨⟨(⟨.empty, .empty, []⟩, none, 0), Nat.le_refl _, fun W _ => Kd.C_nil _ _⟩⟩
section
variable {w : World} {g : Nat}
def Cx.call (x : Cx w g) : Cl := x.1.1
def encX (x : Cx w g) : List Value := [.string x.1.1.src, .string x.1.1.dst, .slice x.1.2.1 x.1.1.arcs.length x.1.2.2]
def cfX (x y : Cx w g) : Int := cmpC x.call y.call
theorem encX_len (x : Cx w g) : (encX x).length = 3 := rfl
theorem encX_one (x : Cx w g) : ∀ v ∈ encX x, v.oneCell' = true := by
  intro v hv
  simp only [encX, List.mem_cons, List.not_mem_nil, or_false] at hv
  rcases hv with rfl | rfl | rfl <;> rfl
theorem ltX (x y : Cx w g) : Go.Proofs.ltOf cfX x y = lssC x.call y.call := cmpC_lt _ _
theorem lss_ntrans {a b c : Cl} (h1 : lssC a b = false) (h2 : lssC b c = false) : lssC a c = false := by
  cases h3 : lssC a c with
  | false => rfl
  | true =>
    cases h4 : lssC c b with
    | true =>
      have := ls_trans h3 h4
      rw [h1] at this
      cases this
    | false =>
      have e := ls_tri h2 h4
      subst e
      rw [h1] at h3
      cases h3
theorem swoX : SWO (Go.Proofs.ltOf (cfX (w := w) (g := g))) := ⟨fun x => by rw [ltX]; exact ls_irr _, fun x y z h1 h2 => by rw [ltX] at h1 h2 ⊢; exact ls_trans h1 h2, fun x y z h1 h2 => by rw [ltX] at h1 h2 ⊢; exact lss_ntrans h1 h2⟩
theorem sort_heap (W : World) (m : Nat) (F : Array Value) (os : Array Obj) : ∀ k, k < W.heap.size → k ≠ g → (grow (putRow id (Go.Sort.ahead W m) g 0 F) os).heap[k]? = W.heap[k]? := by
  intro k hk hne
  show ((putRow id (Go.Sort.ahead W m) g 0 F).heap ++ os)[k]? = _
  have hs : (putRow id (Go.Sort.ahead W m) g 0 F).heap.size = W.heap.size := size_putRow id (Go.Sort.ahead W m) g 0 F
  rw [Array.getElem?_append, if_pos (by rw [hs]; exact hk)]
  show (W.heap.modify g _)[k]? = _
  rw [Array.getElem?_modify, if_neg (fun e => hne e.symm)]
theorem cmpLaysX (off size : Nat) : CmpLays Try.prog 51 #[] (encX (w := w) (g := g)) 3 cfX g 0 size w := by
  intro m os dk hs x y
  rw [Array.append_empty]
  refine (cmpC_calls x.1.2.1 y.1.2.1 x.1.2.2 y.1.2.2 x.1.1 y.1.1 (sortWorldK encX 3 w g 0 m dk os) (x.2.2 _ (sort_heap w m _ os)) (y.2.2 _ (sort_heap w m _ os))).mono ?_
  rintro e w' ⟨h1, h2⟩
  exact ⟨h1, h2.exact⟩
end
theorem below_sort {W : World} {base g : Nat} (hb : base ≤ g) (m : Nat) (F : Array Value) (os : Array Obj) (hs : base ≤ W.heap.size) : Below base W (grow (putRow id (Go.Sort.ahead W m) g 0 F) os) := by
  refine ⟨rfl, rfl, rfl, ?_, fun k hk => sort_heap W m F os k (by omega) (by omega)⟩
  show W.heap.size ≤ ((putRow id (Go.Sort.ahead W m) g 0 F).heap ++ os).size
  rw [Array.size_append, size_putRow]
  show W.heap.size ≤ W.heap.size + _
  omega
set_option maxHeartbeats 2000000 in
set_option maxRecDepth 100000 in
/-- A row of calls, sorted. -/
theorem sort_calls {W : World} {base : Nat} {v : Value} {L : List Cl} (h : kCl.R 34 W base (fun _ => True) v L) (hL : L.length ≤ 1000000) (hbase : base ≤ W.heap.size) :
    Calls Try.prog 50 #[v, .func (.func 51) #[] #[]] W fun e w' => e = .returned (.tuple #[]) ∧ ∃ A cp P, v = .slice A P.length cp ∧ kCl.C w' A P.length P ∧ P.Perm L ∧ (P.Pairwise fun a b => lssC b a = false) ∧ Below base W w' := by
  obtain ⟨_, inner, ⟨hil, hown⟩, hr⟩ := h
  rcases hown with ⟨hv, hn⟩ | ⟨g, cap, cur, hv, hg, hblk, hnc, hcm, hcs, hct⟩
  · have e : L = [] := List.eq_nil_of_length_eq_zero hn
    subst e
    subst hv
    refine (sort_none none 0 (.func (.func 51) #[] #[]) W).mono ?_
    rintro e w' ⟨rfl, rfl⟩
    exact ⟨rfl, none, 0, [], rfl, Kd.C_nil _ _, List.Perm.refl _, List.Pairwise.nil, Below.refl _ _⟩
  · have hgl : g < W.heap.size := (Array.getElem?_eq_some_iff.1 hblk).1
    have hex : ∀ j, (hj : j < L.length) → ∃ x : Cx W g, x.call = L[j] ∧ (inner.drop (j * 3)).take 3 = encX x := by
      intro j hj
      obtain ⟨c0, c1, e0, rfl, c2, c3, rfl, rfl, V1, rfl, hra⟩ := hr.2 j L[j] (List.getElem?_eq_getElem hj)
      replace hra : kAc.R 24 W base (fun k => True ∧ some k ≠ v.ownBlock) V1 L[j].arcs := hra
      have hre := hra
      obtain ⟨A1, cp1, ev1⟩ := Kd.R_slice hra
      subst ev1
      refine ⟨⟨(L[j], A1, cp1), (Kd.R_reads' hra).2.1, fun W2 hW => ?_⟩, rfl, e0⟩
      have h2 : kAc.R 24 W2 base (fun k => True ∧ some k ≠ v.ownBlock) (.slice A1 L[j].arcs.length cp1) L[j].arcs := Kd.R_step hra (fun k hk hlt => hW k hlt (fun e => hk.2 (by rw [hv, e]; rfl)))
      exact (Kd.R_reads' h2).2.2
    obtain ⟨d, hd⟩ : ∃ d : Array (Cx W g), d = Array.ofFn (n := L.length) fun j => Classical.choose (hex j.1 j.2) := ⟨_, rfl⟩
    have hds : d.size = L.length := by rw [hd, Array.size_ofFn]
    have hdc : ∀ j, (hj : j < L.length) → (d[j]!).call = L[j] ∧ (inner.drop (j * 3)).take 3 = encX d[j]! := by
      intro j hj
      have e : d[j]! = Classical.choose (hex j hj) := by
        rw [getElem!_pos d j (by rw [hds]; exact hj)]
        simp only [hd, Array.getElem_ofFn]
      rw [e]
      exact Classical.choose_spec (hex j hj)
    have hH : HoldsK encX 3 W g 0 d := by
      intro t ht
      rw [size_flatK, hds] at ht
      have hj : t / 3 < L.length := by omega
      have h1 := (hdc (t / 3) hj).2
      have hget : cur[t]? = some ((flatK encX 3 d)[t]!) := by
        rw [get_flatK encX 3 d t (by rw [hds]; exact ht)]
        have h2 : inner[t]? = cur[t]? := by
          rw [← hct, List.getElem?_take_of_lt (show t < L.length * kCl.sz from ht), Array.getElem?_toList]
        rw [← h2]
        have h3 : (encX d[t / 3]!)[t % 3]? = inner[t]? := by
          rw [← h1, List.getElem?_take_of_lt (by omega), List.getElem?_drop]
          congr 1
          omega
        rw [← h3]
        have hl : t % 3 < (encX d[t / 3]!).length := by rw [encX_len]; omega
        rw [List.getElem?_eq_getElem hl, getElem!_pos (encX d[t / 3]!) (t % 3) hl]
      rw [Nat.zero_add]
      exact ⟨blk_at hblk hget, blk_frozen hblk t⟩
    have hn : 0 < L.length ∨ L = [] := by cases L with
      | nil => exact .inr rfl
      | cons x t => exact .inl (by simp)
    have eg : ∀ args w, (callFunc 51 args).run Try.prog w = .ok (.enter 51 args) w := enters_of Try.func51 (by kernel_rfl) rfl
    have hcon := Go.Proofs.AnyQ.slices_SortFunc lSort 3 Try.isAgg34 Try.sizeOf34 encX encX_len encX_one cfX swoX 51 #[] g 0 cap d W eg (cmpLaysX 0 d.size) hH hgl (by rw [hds]; omega)
    change Calls Try.prog 50 _ _ _ at hcon
    rw [hds] at hcon
    rw [hv]
    refine hcon.mono ?_
    rintro e w' ⟨rfl, d', n, os, hperm, hsort, rfl⟩
    have hds' : d'.size = d.size := hperm.1
    have hp : d'.toList.Perm d.toList := by
      have h1 := hperm.2.2
      rw [← hds] at h1
      rw [show d.extract 0 d.size = d by simp, show d'.extract 0 d.size = d' by rw [← hds']; simp] at h1
      exact h1
    have hdl : d.toList.map Cx.call = L := by
      refine List.ext_getElem (by simp [hds]) fun j h1 h2 => ?_
      rw [List.getElem_map, Array.getElem_toList, ← (hdc j h2).1, getElem!_pos]
    have hPl : (d'.toList.map Cx.call).length = L.length := by simp [hds', hds]
    refine ⟨rfl, some ⟨g, 0, none⟩, cap, d'.toList.map Cx.call, by rw [hPl], ?_, ?_, ?_, below_sort hg n _ os hbase⟩
    · have hH' : HoldsK encX 3 (putRowK encX 3 (Go.Sort.ahead W n) g 0 d') g 0 d' := holds_putRow id (Go.Sort.ahead W n) g 0 (flatK encX 3 d) (flatK encX 3 d') (holds_ahead id W n g 0 _ hH) (by simp [hds'])
      refine ⟨rfl, by rw [hPl]; omega, fun _ => ⟨⟨g, 0, none⟩, rfl, fun j p hj => ?_⟩⟩
      obtain ⟨hjl, hjp⟩ := List.getElem?_eq_some_iff.1 hj
      have hjd : j < d'.size := by simpa using hjl
      have hpe : p = (d'[j]!).call := by rw [← hjp, List.getElem_map, Array.getElem_toList, getElem!_pos]
      have hC : kAc.C (sortWorldK encX 3 W g 0 n d' os) (d'[j]!).1.2.1 (d'[j]!).1.1.arcs.length (d'[j]!).1.1.arcs := (d'[j]!).2.2 _ (sort_heap W n _ os)
      subst hpe
      refine ⟨encX d'[j]!, rfl, ⟨[.string (d'[j]!).1.1.src], _, rfl, rfl, [.string (d'[j]!).1.1.dst], _, rfl, rfl, _, _, rfl, (d'[j]!).2.1, hC⟩, fun i u hu => ?_⟩
      have hi : i < 3 := by
        have := (List.getElem?_eq_some_iff.1 hu).1
        rwa [encX_len] at this
      have h5 := (Go.Sort.HoldsK.cell hH' hjd hi).1
      have h6 : (encX d'[j]!)[i]! = u := by
        obtain ⟨q1, q2⟩ := List.getElem?_eq_some_iff.1 hu
        rw [getElem!_pos (encX d'[j]!) i q1, q2]
      rw [h6] at h5
      have h7 : ((⟨g, 0, none⟩ : Addr).add (j * 3 + i)) = ⟨g, 0 + j * 3 + i, none⟩ := by simp [Addr.add]; omega
      show (grow (putRowK encX 3 (Go.Sort.ahead W n) g 0 d') os).cell? ((⟨g, 0, none⟩ : Addr).add (j * 3 + i)) = some u
      rw [h7]
      have hbg : g < (putRowK encX 3 (Go.Sort.ahead W n) g 0 d').heap.size := by
        show g < (putRow id (Go.Sort.ahead W n) g 0 _).heap.size
        rw [size_putRow]
        exact hgl
      rw [← h5]
      show World.cell? _ _ = World.cell? _ _
      unfold World.cell?
      have h8 : (grow (putRowK encX 3 (Go.Sort.ahead W n) g 0 d') os).heap[g]? = (putRowK encX 3 (Go.Sort.ahead W n) g 0 d').heap[g]? := by
        show ((putRowK encX 3 (Go.Sort.ahead W n) g 0 d').heap ++ os)[g]? = _
        rw [Array.getElem?_append, if_pos hbg]
      dsimp only
      rw [h8]
    · rw [← hdl]
      exact hp.map Cx.call
    · rw [List.pairwise_iff_getElem]
      intro i j hi hj hij
      have hi' : i < d'.size := by simpa using hi
      have hj' : j < d'.size := by simpa using hj
      have h1 := hsort i j (Nat.zero_le _) hij (by rw [← hds, ← hds']; exact hj')
      rw [ltX] at h1
      rw [List.getElem_map, List.getElem_map, Array.getElem_toList, Array.getElem_toList]
      rw [getElem!_pos d' j hj', getElem!_pos d' i hi'] at h1
      exact h1
end
section

abbrev gcalls (a : List Mk) : List Cl := a.map fun m => callG m.1
section
variable {A : Option Addr} {cp : Nat} {l : List Cl} {w : World} (h : kCl.C w A l.length l) (hs : ∀ c ∈ l, c.src.size ≤ maxLen ∧ c.dst.size ≤ maxLen ∧ c.arcs.length ≤ 1000000) (hl : l.length ≤ 9223372036854775807)
include h hs hl
set_option maxHeartbeats 4000000 in
set_option maxRecDepth 100000 in
theorem pclos_some {a : List Mk} (hx : closedF l 4 2 = (some a, 0)) (hal : a.length ≤ 2000) : Calls Try.prog 26 #[.slice A l.length cp] w fun e w' => ∃ A' cp' P, e = .returned (.tuple #[.slice A' P.length cp', .int .i64 0]) ∧ kCl.C w' A' P.length P ∧ P.Perm (gcalls a) ∧ (P.Pairwise fun x y => lssC y x = false) ∧ Below w.heap.size w w' := by
  have HC := Aside0.mk (closed_some (cp := cp) h hs hl hx)
  have HAL := Aside0.mk hal
  clear hx h hs hl hal
  obtain ⟨zc, hzc⟩ : ∃ zc, zc = (cG ⟨.empty, .empty, List.replicate 36 0⟩).push (.slice none 0 0) := ⟨_, rfl⟩
  have HZR8 := Aside0.mk (fun w => show (zeroValue 83).run Try.prog w = .ok (.agg zc) w from by rw [hzc]; exact zero83_run w)
  have HZS8 := Aside0.mk (show zc.size = 39 by rw [hzc]; simp [cG])
  clear hzc
  go_enter Try.func26, Try.ntmps26
  go_wp2_with (go_at_call 39; refine HC.out.mono ?_; rintro e w5 ⟨A5, c5, rfl, hc5, hb5⟩; have HC5 := Aside0.mk hc5; have HB5 := Aside0.mk hb5; clear hb5 hc5)
  go_loopg [6, 19] a.length (fun kq v6 v19 w' => ∃ (i : Nat), v19 = .int .i64 (i : Int) ∧ Aside0 (kq + i = a.length) ∧ Aside0 (Below w5.heap.size w5 w') ∧ Aside0 (kCl.R 34 w' w5.heap.size (fun _ => True) v6 (gcalls (a.take i))))
  case atStart => exact ⟨0, rfl, ⟨rfl⟩, ⟨Below.refl _ _⟩, ⟨Kd.R_nil _ _ _ _ _⟩⟩
  case round =>
    obtain ⟨i, rfl, HK, HB, HV⟩ := hrel
    by_cases hlt : i < a.length
    · have hdx : decide ((i : Int) < (a.length : Int)) = true := decide_eq_true (by omega)
      have hi0 : (i : Int) < (a.length : Int) := by omega
      have hib : wrap64 ((i : Int) + 1) = (i : Int) + 1 := by have := HAL.out; unfold wrap64; omega
      have HLT := Aside0.mk hlt
      obtain ⟨ad, v, e, ⟨hg, h1v⟩, hc⟩ := mk_get (Kd.C_below HC5.out HB.out) i hlt
      have HTK := Aside0.mk (show gcalls (a.take (i + 1)) = gcalls (a.take i) ++ [callG a[i].1] by rw [gcalls, List.take_succ_eq_append_getElem hlt, List.map_append]; rfl)
      have HLL := Aside0.mk (show (gcalls (a.take i)).length ≤ 2000 by rw [List.length_map, List.length_take]; have := HAL.out; omega)
      have HCL := Aside0.mk (fun W => call_calls a[i].1 hg.tab W)
      obtain ⟨LL, hLL⟩ : ∃ x, x = gcalls (a.take i) := ⟨_, rfl⟩
      rw [← hLL] at HTK HLL HV
      obtain ⟨cm, hcm⟩ : ∃ c, c = cM a[i].1 v := ⟨_, rfl⟩
      rw [← hcm] at hc
      have HCC := Aside0.mk hc
      have HMS := Aside0.mk (show cm.size = 39 by rw [hcm]; exact cM_size hg v)
      obtain ⟨cgm, hcgm⟩ : ∃ c, c = cG a[i].1 := ⟨_, rfl⟩
      have HGMS := Aside0.mk (show cgm.size = 38 by rw [hcgm]; exact cG_size hg.tab)
      have HATM := Aside0.mk (fun j u (h : cgm[j]? = some u) => show cm[0 + j]? = some u from by rw [hcm]; exact cM_at j u (by rw [← hcgm]; exact h))
      have HM1 := Aside0.mk (show cm.all (·.oneCell') = true by rw [hcm]; unfold cM; rw [Array.all_push, cG_one, h1v]; rfl)
      unfold vG at HCL
      rw [← hcgm] at HCL
      obtain ⟨cl, hcl⟩ : ∃ c, c = callG a[i].1 := ⟨_, rfl⟩
      rw [← hcl] at HTK
      replace HCL : Aside0 (∀ W : World, Calls Try.prog 47 #[.agg cgm] W fun e w' => ∃ v, e = .returned (.agg #[.string cl.src, .string cl.dst, v]) ∧ kAc.R 24 w' W.heap.size (fun _ => True) v cl.arcs ∧ Below W.heap.size W w') := ⟨by rw [hcl]; exact HCL.out⟩
      subst e
      clear hc hg h1v hcm hcgm hcl hLL hlt
      go_wp2_with (first | ((with_reducible refine gate_load (t := 83) (x := .tmp 21) rfl ?_); refine run_law (by rfl) (.agg cm) (cells_run (ty := 83) (x := .tmp 21) (ad := ad.add (i * 39)) (cs := cm) ?h1 ?h2 ?hs ?h3 Try.underlying83 ?h4) ?_; (case h1 => rfl); (case h2 => rfl); (case hs => exact fun j v hv => by rw [Addr.add_add]; exact HCC.out j v hv); (case h3 => rfl); (case h4 => rw [HMS.out]; kernel_rfl)) | ((with_reducible refine gate_alloc (t := 83) rfl ?_); refine alloc_zero rfl rfl zc HZR8.out ?_) | ((with_reducible refine gate_store (t := 83) (p := 8) rfl ?_); refine store_last rfl rfl rfl _ 83 zc cm (by rfl) (by rfl) rfl (by rw [HMS.out]; kernel_rfl) (HZS8.out.trans HMS.out.symm) HM1.out ?_) | ((with_reducible refine gate_load (t := 81) (x := .tmp 24) rfl ?_); refine run_law (by rfl) (.agg cgm) (part_run (ty := 81) (x := .tmp 24) (b := wr.heap.size) (f := 0) (t := 83) (all := cm) (cs := cgm) ?h1 ?h2 (blk_new wr (.cells cm 83)) HATM.out ?h3 Try.underlying81 ?h4) ?_; (case h1 => rfl); (case h2 => rfl); (case h3 => rfl); (case h4 => rw [HGMS.out]; kernel_rfl)) | (go_at_call 47; refine (HCL.out _).mono ?_; rintro e w6 ⟨v6, rfl, hr6, hb6⟩; obtain ⟨A6, c6, ev6⟩ := Kd.R_slice hr6; subst ev6; have HB6 := Aside0.mk (below_step HB.out (below_step (below_alloc (Below.refl _ _) (.cells cm 83)) hb6)); have HV6 := Aside0.mk (Kd.R_below HV.out (below_step (below_alloc (Below.refl _ _) (.cells cm 83)) hb6)); have HR6 := Aside0.mk (show kAc.R 24 w6 w5.heap.size (fun _ => True) (.slice A6 cl.arcs.length c6) cl.arcs from Kd.R_lower hr6 (below_step HB.out (below_alloc (Below.refl _ _) (.cells cm 83))).size); clear hb6 hr6) | (at_builtin; go_loud (refine Kd.R_append kCl (w0 := w5) (W := w6) w5.heap.size rfl (.tmp 23) (.tmp 27) 22 34 (.agg #[.string .empty, .string .empty, .slice none 0 0]) 56 rfl Try.underlying22 info34 rfl (Nat.succ_pos 2) (by omega) u6 LL cl [.string cl.src, .string cl.dst, .slice A6 cl.arcs.length c6] (fun _ => True) (fun k => True ∧ some k ≠ u6.ownBlock) rfl rfl (call_M (Kd.R_apart' HR6.out (Kd.R_typed HV6.out) (by decide))) (fun _ hk => hk) (fun _ _ => trivial) HV6.out HB6.out HB6.out.size (by have := HLL.out; omega) ?_; intro v9 w9 hr1 hb1 hg1 hat1; have HV9 := Aside0.mk hr1; have HB9 := Aside0.mk hb1; clear hr1 hb1 hg1 hat1)))
      go_roundg (a.length - i - 1)
      case measure => have := HK.out; omega
      case rel => exact ⟨i + 1, by go_num, ⟨by have := HK.out; have := HLT.out; omega⟩, HB9, ⟨by rw [HTK.out]; exact HV9.out⟩⟩
    · have hdx : decide ((i : Int) < (a.length : Int)) = false := decide_eq_false (by omega)
      have HVF := Aside0.mk (show kCl.R 34 wr w5.heap.size (fun _ => True) u6 (gcalls a) by
        have h1 := HV.out
        rw [List.take_of_length_le (by omega)] at h1
        exact h1)
      have HLL := Aside0.mk (show (gcalls a).length ≤ 1000000 by rw [List.length_map]; have := HAL.out; omega)
      clear HV
      go_wp2_with (go_at_call 50; refine (sort_calls HVF.out HLL.out HB.out.size).mono ?_; rintro e w8 ⟨rfl, A8, c8, P, ev, hC8, hperm, hsrt, hb8⟩; have HC8 := Aside0.mk hC8; have HPE := Aside0.mk hperm; have HSR := Aside0.mk hsrt; have HB8 := Aside0.mk (below_step HB5.out (Below.trans HB.out hb8)); clear hC8 hperm hsrt hb8 HVF; subst ev)
      go_ret2
      exact ⟨A8, c8, P, rfl, HC8.out, HPE.out, HSR.out, HB8.out⟩
theorem pclos_none {x : Int} (hx : closedF l 4 2 = (none, x)) (hne : x ≠ 0) : Calls Try.prog 26 #[.slice A l.length cp] w fun e w' => e = .returned (.tuple #[.slice none 0 0, .int .i64 x]) ∧ Below w.heap.size w w' := by
  have HC := Aside0.mk (closed_none (cp := cp) h hs hl hx)
  have hn : (x != 0) = true := by simpa using hne
  clear hx h hs hl
  go_enter Try.func26, Try.ntmps26
  go_wp2_with (go_at_call 39; refine HC.out.mono ?_; rintro e w5 ⟨rfl, hb5⟩; have HB5 := Aside0.mk hb5; clear hb5)
  go_ret2
  exact ⟨rfl, HB5.out⟩
end
set_option maxHeartbeats 4000000 in
set_option maxRecDepth 100000 in
/-- Two equal rows of calls are told equal. -/
theorem eqall_same (A B : Option Addr) (p q : Nat) (L : List Cl) (w : World) (ha : kCl.C w A L.length L) (hb : kCl.C w B L.length L) : Calls Try.prog 28 #[.slice A L.length p, .slice B L.length q] w fun e w' => e = .returned (.bool true) ∧ Below w.heap.size w w' := by
  have HCA := Aside0.mk ha
  have HCB := Aside0.mk hb
  have HLL := Aside0.mk (show L.length ≤ 9223372036854775807 from ha.2.1)
  have hne : ((L.length : Int) != (L.length : Int)) = false := by simp
  have hne2 : (L.length != L.length) = false := by simp
  clear ha hb
  go_enter Try.func28, Try.ntmps28
  go_wp2
  clear hne hne2
  go_loopg [5] L.length (fun kq v5 w' => ∃ (i : Nat), v5 = .int .i64 (i : Int) ∧ Aside0 (kq + i = L.length) ∧ Aside0 (Below w.heap.size w w'))
  case atStart => exact ⟨0, rfl, ⟨rfl⟩, ⟨Below.refl _ _⟩⟩
  case round =>
    obtain ⟨i, rfl, HK, HB⟩ := hrel
    by_cases hlt : i < L.length
    · have hdx : decide ((i : Int) < (L.length : Int)) = true := decide_eq_true (by omega)
      have hi0 : (i : Int) < (L.length : Int) := by omega
      have hib : wrap64 ((i : Int) + 1) = (i : Int) + 1 := by have := HLL.out; unfold wrap64; omega
      have HLT := Aside0.mk hlt
      obtain ⟨ad, X, xc, ea, hxc, hx, hqa⟩ := cl_get2 (Kd.C_below HCA.out HB.out) i hlt
      obtain ⟨bd, Y, yc, eb, hyc, hy, hqb⟩ := cl_get2 (Kd.C_below HCB.out HB.out) i hlt
      have HEQ := Aside0.mk (fun (W : World) (h : Below wr.heap.size wr W) => show Calls Try.prog 19 #[.agg #[.string L[i].src, .string L[i].dst, .slice X L[i].arcs.length xc], .agg #[.string L[i].src, .string L[i].dst, .slice Y L[i].arcs.length yc]] W fun e w' => e = .returned (.bool true) ∧ Below W.heap.size W w' from by
        have h1 := eq_calls X Y xc yc L[i] L[i] W (Kd.C_below hx h) (Kd.C_below hy h)
        rw [show eqC L[i] L[i] = true from by rw [eqC_iff]; exact decide_eq_true rfl] at h1
        exact h1)
      have HQA := Aside0.mk hqa
      have HQB := Aside0.mk hqb
      clear hxc hx hyc hy hqa hqb
      generalize L[i] = c at HEQ HQA HQB
      subst ea
      subst eb
      go_wp2
      refine start_ (n := 10) (S := fun w' => Below wr.heap.size wr w') (ds := []) #[false, false, false, false, false, false, false, false, false, false] (by kernel_rfl) rfl rfl (below_drew1 (Below.refl _ _)) (fun hHeld => ?_)
      refine pure_ (i := 0) (N := some 17) (v := ?_) (a' := ?_) #[true, false, false, false, false, false, false, false, false, false] rfl rfl (by kernel_rfl) (fun _ _ _ h => h) (Or.inl ⟨by rfl, ?_⟩) ?_ ?_
      rotate_left
      · intro w'
        go_simp
        with_reducible rfl
      rotate_left
      · simp only [Act.put, List.setIfInBounds_toArray, List.set_cons_zero, List.set_cons_succ, i64_w, i32_w]
        rfl
      refine pure_ (i := 1) (N := some 18) (v := ?_) (a' := ?_) #[true, true, false, false, false, false, false, false, false, false] rfl rfl (by kernel_rfl) (fun _ _ _ h => h) (Or.inl ⟨by rfl, ?_⟩) ?_ ?_
      rotate_left
      · intro w'
        go_simp
        with_reducible rfl
      rotate_left
      · simp only [Act.put, List.setIfInBounds_toArray, List.set_cons_zero, List.set_cons_succ, i64_w, i32_w]
        rfl
      refine pure_ (i := 2) (N := some 19) (v := ?_) (a' := ?_) #[true, true, true, false, false, false, false, false, false, false] rfl rfl (by kernel_rfl) (fun _ _ _ h => h) (Or.inl ⟨by rfl, ?_⟩) ?_ ?_
      rotate_left
      · intro w'
        go_simp
        with_reducible rfl
      rotate_left
      · simp only [Act.put, List.setIfInBounds_toArray, List.set_cons_zero, List.set_cons_succ, i64_w, i32_w]
        rfl
      refine take_ (i := 3) (N := some 20) (v := ?_) (a' := ?_) #[true, true, true, true, false, false, false, false, false, false] rfl rfl (by kernel_rfl) (fun _ _ _ h => h) (Or.inl ⟨by rfl, ?_⟩) hHeld ?_ ?_
      rotate_left
      · rintro w' s0
        obtain ⟨q0, q1, q2⟩ := HQA.out w' s0
        go_simp
        with_reducible rfl
      rotate_left
      · simp only [Act.put, List.setIfInBounds_toArray, List.set_cons_zero, List.set_cons_succ, i64_w, i32_w]
        rfl
      refine pure_ (i := 4) (N := some 21) (v := ?_) (a' := ?_) #[true, true, true, true, true, false, false, false, false, false] rfl rfl (by kernel_rfl) (fun _ _ _ h => h) (Or.inl ⟨by rfl, ?_⟩) ?_ ?_
      rotate_left
      · intro w'
        go_simp
        with_reducible rfl
      rotate_left
      · simp only [Act.put, List.setIfInBounds_toArray, List.set_cons_zero, List.set_cons_succ, i64_w, i32_w]
        rfl
      refine pure_ (i := 5) (N := some 22) (v := ?_) (a' := ?_) #[true, true, true, true, true, true, false, false, false, false] rfl rfl (by kernel_rfl) (fun _ _ _ h => h) (Or.inl ⟨by rfl, ?_⟩) ?_ ?_
      rotate_left
      · intro w'
        go_simp
        with_reducible rfl
      rotate_left
      · simp only [Act.put, List.setIfInBounds_toArray, List.set_cons_zero, List.set_cons_succ, i64_w, i32_w]
        rfl
      refine pure_ (i := 6) (N := some 23) (v := ?_) (a' := ?_) #[true, true, true, true, true, true, true, false, false, false] rfl rfl (by kernel_rfl) (fun _ _ _ h => h) (Or.inl ⟨by rfl, ?_⟩) ?_ ?_
      rotate_left
      · intro w'
        go_simp
        with_reducible rfl
      rotate_left
      · simp only [Act.put, List.setIfInBounds_toArray, List.set_cons_zero, List.set_cons_succ, i64_w, i32_w]
        rfl
      refine take_ (i := 7) (N := some 24) (v := ?_) (a' := ?_) #[true, true, true, true, true, true, true, true, false, false] rfl rfl (by kernel_rfl) (fun _ _ _ h => h) (Or.inl ⟨by rfl, ?_⟩) hHeld ?_ ?_
      rotate_left
      · rintro w' s0
        obtain ⟨q0, q1, q2⟩ := HQB.out w' s0
        go_simp
        with_reducible rfl
      rotate_left
      · simp only [Act.put, List.setIfInBounds_toArray, List.set_cons_zero, List.set_cons_succ, i64_w, i32_w]
        rfl
      refine one_ (i := 8) (N := some 25) #[true, true, true, true, true, true, true, true, true, false] rfl rfl (by kernel_rfl) (by decide) (fun K hK => ?_)
      refine goes_ Try.func19 (by kernel_rfl) rfl #[.agg #[.string c.src, .string c.dst, .slice X c.arcs.length xc], .agg #[.string c.src, .string c.dst, .slice Y c.arcs.length yc]] (by rfl) rfl rfl (by (try simp only [List.map_toArray, List.map_cons, List.map_nil]); first | done | rfl) ?_
      refine (HEQ.out _ hHeld).mono ?_
      rintro e2 w3 ⟨rfl, hb3⟩
      refine ⟨_, rfl, ?_⟩
      have hB := below_step hHeld hb3
      refine hK.out _ _ hB (fun _ => ?_)
      clear hK K hHeld hb3
      have hHeld := hB
      clear hB
      refine norm_ (a' := ?_) ?_ ?_
      rotate_left
      · show Act.put _ (some 25) _ = _
        simp only [Act.put, List.setIfInBounds_toArray, List.set_cons_zero, List.set_cons_succ, i64_w, i32_w]
        rfl
      refine pure_ (i := 9) (N := some 26) (v := ?_) (a' := ?_) #[true, true, true, true, true, true, true, true, true, true] rfl rfl (by kernel_rfl) (fun _ _ _ h => h) (Or.inl ⟨by rfl, ?_⟩) ?_ ?_
      rotate_left
      · intro w'
        go_simp
        with_reducible rfl
      rotate_left
      · simp only [Act.put, List.setIfInBounds_toArray, List.set_cons_zero, List.set_cons_succ, i64_w, i32_w]
        rfl
      refine done_ (by kernel_rfl) ?_
      have HB2 := Aside0.mk (below_step HB.out hHeld)
      clear hHeld
      go_wp2
      go_roundg (L.length - i - 1)
      case measure => have := HK.out; omega
      case rel => exact ⟨i + 1, by go_num, ⟨by have := HK.out; have := HLT.out; omega⟩, HB2⟩
    · have hdx : decide ((i : Int) < (L.length : Int)) = false := decide_eq_false (by omega)
      go_wp2
      go_ret
      exact ⟨rfl, HB.out⟩
/-- Two rows in strict order with the same members are one. -/
theorem ord_ext : ∀ {a b : List Cl}, Ord a → Ord b → (∀ c, c ∈ a ↔ c ∈ b) → a = b
  | [], [], _, _, _ => rfl
  | [], y :: b, _, _, h => by cases (h y).2 (List.mem_cons_self ..)
  | x :: a, [], _, _, h => by cases (h x).1 (List.mem_cons_self ..)
  | x :: a, y :: b, ha, hb, h => by
    have ha' := List.pairwise_cons.1 ha
    have hb' := List.pairwise_cons.1 hb
    have e : x = y := by
      rcases List.mem_cons.1 ((h x).1 (List.mem_cons_self ..)) with e | m1
      · exact e
      · rcases List.mem_cons.1 ((h y).2 (List.mem_cons_self ..)) with e | m2
        · exact e.symm
        · have h1 := ls_trans (hb'.1 x m1) (ha'.1 y m2)
          rw [ls_irr] at h1
          cases h1
    subst e
    have nx : ∀ {l : List Cl}, (∀ z ∈ l, lssC x z = true) → x ∉ l := fun hl hm => by
      have h1 := hl x hm
      rw [ls_irr] at h1
      cases h1
    rw [ord_ext ha'.2 hb'.2 fun c => by
      have h1 := h c
      constructor
      · intro hc
        rcases List.mem_cons.1 (h1.1 (List.mem_cons_of_mem _ hc)) with rfl | m
        · exact absurd hc (nx ha'.1)
        · exact m
      · intro hc
        rcases List.mem_cons.1 (h1.2 (List.mem_cons_of_mem _ hc)) with rfl | m
        · exact absurd hc (nx hb'.1)
        · exact m]
/-- A sorted permutation of calls that differ is in strict order. -/
theorem ord_of {P L : List Cl} (hp : P.Perm L) (hn : L.Pairwise (· ≠ ·)) (hs : P.Pairwise fun x y => lssC y x = false) : Ord P := by
  have hd : P.Pairwise (· ≠ ·) := (hp.pairwise_iff (fun {x y} (h : x ≠ y) => Ne.symm h)).2 hn
  refine List.Pairwise.imp₂ ?_ hs hd
  intro x y h1 h2
  cases h3 : lssC x y with
  | true => rfl
  | false => exact absurd (ls_tri h3 h1) h2
theorem gcalls_diff {l : List Cl} {a : List Mk} (hx : closedF l 4 2 = (some a, 0)) : (gcalls a).Pairwise (· ≠ ·) := by
  obtain ⟨first, hr, hq⟩ := closedF_some hx
  have ht := closed_tabs hx
  rw [List.pairwise_map]
  refine List.Pairwise.imp_of_mem ?_ (closedQ_some hq).1.diff
  intro m k hm hk hne e
  exact hne (callG_inj (ht m hm) (ht k hk) e)
/-- The program's closure is the reference's. -/
theorem clos_same {l : List Cl} {a : List Mk} (hx : closedF l 4 2 = (some a, 0)) {P S : List Cl} (hp : P.Perm (gcalls a)) (hs : P.Pairwise fun x y => lssC y x = false) (hS : Ord S) (hm : ∀ c, c ∈ S ↔ ∃ m ∈ a, c = callG m.1) : P = S := by
  refine ord_ext (ord_of hp (gcalls_diff hx) hs) hS fun c => ?_
  rw [hp.mem_iff, hm, List.mem_map]
  exact ⟨fun ⟨m, h1, h2⟩ => ⟨m, h1, h2.symm⟩, fun ⟨m, h1, h2⟩ => ⟨m, h1, h2.symm⟩⟩
end
section

theorem rclos_good {A : Option Addr} {cp : Nat} {l : List Cl} {w : World} {a : List Mk} (hl : kCl.C w A l.length l) (hlen : l.length ≤ 1000000) (hx : closedF l 4 2 = (some a, 0)) : Calls Try.prog 27 #[.slice A l.length cp] w (ROut l a w) := by
  refine (rclosure_calls A cp l w hl hlen).mono ?_
  rintro e w' (⟨b, h1, h2⟩ | ⟨x, h1, _⟩)
  · rw [hx] at h1
    simp only [Prod.mk.injEq, Option.some.injEq, and_true] at h1
    rw [h1]
    exact h2
  · rw [hx] at h1
    cases h1
theorem rclos_bad {A : Option Addr} {cp : Nat} {l : List Cl} {w : World} {x : Int} (hl : kCl.C w A l.length l) (hlen : l.length ≤ 1000000) (hx : closedF l 4 2 = (none, x)) : Calls Try.prog 27 #[.slice A l.length cp] w fun e w' => e = .returned (.tuple #[.slice none 0 0, .int .i64 x]) ∧ Below w.heap.size w w' := by
  refine (rclosure_calls A cp l w hl hlen).mono ?_
  rintro e w' (⟨b, h1, h2⟩ | ⟨y, h1, h2, h3, h4⟩)
  · rw [hx] at h1
    cases h1
  · rw [hx] at h1
    simp only [Prod.mk.injEq, true_and] at h1
    rw [h1]
    exact ⟨h3, h4⟩
set_option maxHeartbeats 4000000 in
set_option maxRecDepth 100000 in
/-- No closure. -/
theorem closes_err (A : Option Addr) (cp : Nat) (l : List Cl) (w : World) (h : kCl.C w A l.length l) (hbig : bigL l 70 = false) (hgo : ¬ (12 < l.length ∧ l.length ≤ 60)) {x : Int} (hne : x ≠ 0) (hx : closedF l 4 2 = (none, x)) :
    Calls Try.prog 8 #[.slice A l.length cp] w fun e w' => e = .returned (.bool true) ∧ Below w.heap.size w w' := by
  have hsm := small70 hbig
  have HBG := Aside0.mk (big_calls A cp l 70 w h (by omega))
  rw [hbig] at HBG
  have HT := Aside0.mk (fun (W : World) (hb : Below w.heap.size w W) => pclos_none (cp := cp) (Kd.C_below h hb) hsm.2 (by omega) hx hne)
  have HR := Aside0.mk (fun (W : World) (hb : Below w.heap.size w W) => rclos_bad (cp := cp) (Kd.C_below h hb) (by omega) hx)
  have e2 : (x == x) = true := by simp
  by_cases h12 : 12 < l.length
  · have d1 : decide ((12 : Int) < (l.length : Int)) = true := decide_eq_true (by omega)
    have d3 : ¬ l.length ≤ 60 := fun h60 => hgo ⟨h12, h60⟩
    have d2 : decide ((l.length : Int) ≤ 60) = false := decide_eq_false (by omega)
    clear hsm hbig hgo hx hne h
    go_enter Try.func8, Try.ntmps8
    go_wp2_with (first | (go_at_call 11; refine HBG.out.mono ?_; rintro e w1 ⟨rfl, hb1⟩; have HB1 := Aside0.mk hb1; clear hb1) | (go_at_call 26; refine (HT.out _ HB1.out).mono ?_; rintro e w2 ⟨rfl, hb2⟩; have HB2 := Aside0.mk (below_step HB1.out hb2); clear hb2) | (go_at_call 27; refine (HR.out _ HB2.out).mono ?_; rintro e w3 ⟨rfl, hb3⟩; have HB3 := Aside0.mk (below_step HB2.out hb3); clear hb3) | (go_at_call 28; refine (eqall_same none none 0 0 [] _ (Kd.C_nil _ _) (Kd.C_nil _ _)).mono ?_; rintro e w4 ⟨rfl, hb4⟩; have HB4 := Aside0.mk (below_step HB3.out hb4); clear hb4) | (go_at_call 12; refine (awake_calls _).mono ?_; rintro e w5 ⟨rfl, hb5⟩; have HB5 := Aside0.mk (below_step HB4.out hb5); clear hb5))
    go_ret
    exact ⟨rfl, HB5.out⟩
  · have d1 : decide ((12 : Int) < (l.length : Int)) = false := decide_eq_false (by omega)
    clear hsm hbig hgo hx hne h
    go_enter Try.func8, Try.ntmps8
    go_wp2_with (first | (go_at_call 11; refine HBG.out.mono ?_; rintro e w1 ⟨rfl, hb1⟩; have HB1 := Aside0.mk hb1; clear hb1) | (go_at_call 26; refine (HT.out _ HB1.out).mono ?_; rintro e w2 ⟨rfl, hb2⟩; have HB2 := Aside0.mk (below_step HB1.out hb2); clear hb2) | (go_at_call 27; refine (HR.out _ HB2.out).mono ?_; rintro e w3 ⟨rfl, hb3⟩; have HB3 := Aside0.mk (below_step HB2.out hb3); clear hb3) | (go_at_call 28; refine (eqall_same none none 0 0 [] _ (Kd.C_nil _ _) (Kd.C_nil _ _)).mono ?_; rintro e w4 ⟨rfl, hb4⟩; have HB4 := Aside0.mk (below_step HB3.out hb4); clear hb4) | (go_at_call 12; refine (awake_calls _).mono ?_; rintro e w5 ⟨rfl, hb5⟩; have HB5 := Aside0.mk (below_step HB4.out hb5); clear hb5))
    go_ret
    exact ⟨rfl, HB5.out⟩
set_option maxHeartbeats 4000000 in
set_option maxRecDepth 100000 in
theorem closes_law (A : Option Addr) (cp : Nat) (l : List Cl) (w : World) (h : kCl.C w A l.length l) (hl : l.length ≤ 9223372036854775807) :
    Calls Try.prog 8 #[.slice A l.length cp] w fun e w' => e = .returned (.bool true) ∧ Below w.heap.size w w' := by
  have HBG := Aside0.mk (big_calls A cp l 70 w h hl)
  cases hbig : bigL l 70 with
  | true =>
    rw [hbig] at HBG
    clear hbig h hl
    go_enter Try.func8, Try.ntmps8
    go_wp2_with (first | (go_at_call 11; refine HBG.out.mono ?_; rintro e w1 ⟨rfl, hb1⟩; have HB1 := Aside0.mk hb1; clear hb1) | (go_at_call 12; refine (awake_calls _).mono ?_; rintro e w5 ⟨rfl, hb5⟩; have HB5 := Aside0.mk (below_step HB1.out hb5); clear hb5))
    go_ret
    exact ⟨rfl, HB5.out⟩
  | false =>
  rw [hbig] at HBG
  by_cases hgo : 12 < l.length ∧ l.length ≤ 60
  · have h12 := hgo.1
    have h60 := hgo.2
    have d1 : decide ((12 : Int) < (l.length : Int)) = true := decide_eq_true (by omega)
    have d2 : decide ((l.length : Int) ≤ 60) = true := decide_eq_true (by omega)
    clear hgo hbig h hl
    go_enter Try.func8, Try.ntmps8
    go_wp2_with (first | (go_at_call 11; refine HBG.out.mono ?_; rintro e w1 ⟨rfl, hb1⟩; have HB1 := Aside0.mk hb1; clear hb1) | (go_at_call 12; refine (awake_calls _).mono ?_; rintro e w5 ⟨rfl, hb5⟩; have HB5 := Aside0.mk (below_step HB1.out hb5); clear hb5))
    go_ret
    exact ⟨rfl, HB5.out⟩
  · rcases closedF_cases l with ⟨a, hx, hal⟩ | hx | hx
    · have hsm := small70 hbig
      have h12 : ¬ 12 < l.length := fun h12 => by
        have h60 : 60 < l.length := by omega
        unfold closedF at hx
        rw [if_pos h60] at hx
        cases hx
      have d1 : decide ((12 : Int) < (l.length : Int)) = false := decide_eq_false (by omega)
      have HT := Aside0.mk (fun (W : World) (hb : Below w.heap.size w W) => pclos_some (cp := cp) (Kd.C_below h hb) hsm.2 hl hx hal)
      have HR := Aside0.mk (fun (W : World) (hb : Below w.heap.size w W) => rclos_good (cp := cp) (Kd.C_below h hb) (by omega) hx)
      have HX := Aside0.mk hx
      clear hsm hbig hgo hx hal h hl
      unfold ROut at HR
      go_enter Try.func8, Try.ntmps8
      go_wp2_with (first | (go_at_call 11; refine HBG.out.mono ?_; rintro e w1 ⟨rfl, hb1⟩; have HB1 := Aside0.mk hb1; clear hb1) | (go_at_call 26; refine (HT.out _ HB1.out).mono ?_; rintro e w2 ⟨A2, c2, P, rfl, hc2, hp2, hs2, hb2⟩; have HB2 := Aside0.mk (below_step HB1.out hb2); have HC2 := Aside0.mk hc2; have HP2 := Aside0.mk hp2; have HS2 := Aside0.mk hs2; clear hb2 hc2 hp2 hs2) | (go_at_call 27; refine (HR.out _ HB2.out).mono ?_; rintro e w3 ⟨A3, c3, S, rfl, hc3, _, hm3, ho3, hb3⟩; have hPS := clos_same HX.out HP2.out HS2.out ho3 hm3; subst hPS; have HB3 := Aside0.mk (below_step HB2.out hb3); have HC3 := Aside0.mk hc3; have HC4 := Aside0.mk (Kd.C_below HC2.out hb3); clear hb3 hc3 hm3 ho3) | (go_at_call 28; refine (eqall_same A2 A3 c2 c3 P _ HC4.out HC3.out).mono ?_; rintro e w4 ⟨rfl, hb4⟩; have HB4 := Aside0.mk (below_step HB3.out hb4); clear hb4) | (go_at_call 12; refine (awake_calls _).mono ?_; rintro e w5 ⟨rfl, hb5⟩; have HB5 := Aside0.mk (below_step HB4.out hb5); clear hb5))
      go_ret
      exact ⟨rfl, HB5.out⟩
    · exact closes_err A cp l w h hbig hgo (by decide) hx
    · exact closes_err A cp l w h hbig hgo (by decide) hx
end
section

theorem len_sub {α : Type} [DecidableEq α] : ∀ {l m : List α}, l.Pairwise (· ≠ ·) → (∀ x ∈ l, x ∈ m) → l.length ≤ m.length
  | [], _, _, _ => Nat.zero_le _
  | x :: l, m, hn, h => by
    have hx := List.pairwise_cons.1 hn
    have hm := h x (List.mem_cons_self ..)
    have h1 := len_sub hx.2 (m := m.erase x) fun y hy => (List.mem_erase_of_ne (fun e => hx.1 y hy e.symm)).2 (h y (List.mem_cons_of_mem _ hy))
    rw [List.length_erase_of_mem hm] at h1
    have := List.length_pos_of_mem hm
    simp only [List.length_cons]
    omega
section
variable {a : List Mk} (hal : a.length ≤ 2000)
/-- What is gathered lies in a closure. -/
structure In (a all : List Mk) : Prop where
  sub : ∀ m ∈ all, Has a m.1
  diff : all.Pairwise fun x y => x.1 ≠ y.1
include hal
theorem addM_ok {all : List Mk} (h : In a all) {g : Gr} (hg : Has a g) (w : List Int) : ∃ b, addM all g w = some b ∧ In a b := by
  unfold addM
  by_cases hc : all.any (fun m => decide (m.1 = g)) = true
  · exact ⟨all, if_pos hc, h⟩
  · rw [if_neg hc]
    have hne : ∀ x ∈ all, x.1 ≠ g := fun x hx e => hc (List.any_eq_true.2 ⟨x, hx, decide_eq_true e⟩)
    have hin : In a (all ++ [(g, w)]) := by
      refine ⟨fun m hm => ?_, ?_⟩
      · rcases List.mem_append.1 hm with hm | hm
        · exact h.sub m hm
        · rw [List.mem_singleton.1 hm]
          exact hg
      · rw [List.pairwise_append]
        refine ⟨h.diff, List.pairwise_singleton _ _, fun x hx y hy => ?_⟩
        rw [List.mem_singleton.1 hy]
        exact hne x hx
    have hlen : (all ++ [(g, w)]).length ≤ a.length := by
      have h1 := len_sub (l := (all ++ [(g, w)]).map Prod.fst) (m := a.map Prod.fst) (by rw [List.pairwise_map]; exact hin.diff) fun x hx => by
        obtain ⟨m, hm, rfl⟩ := List.mem_map.1 hx
        obtain ⟨k, hk, e⟩ := hin.sub m hm
        rw [← e]
        exact List.mem_map_of_mem hk
      rwa [List.length_map, List.length_map] at h1
    rw [List.length_append, List.length_singleton] at hlen
    exact ⟨_, if_neg (by omega), hin⟩
theorem extL_ok {few : List Gr} {m : Mk} (hm : ∀ h ∈ few, m.1.dst = h.src → Has a (thenG m.1 h)) : ∀ (d i : Nat) (all : List Mk), d + i = few.length → In a all → ∃ b, extL few m d i all = some b ∧ In a b
  | 0, _, all, _, h => ⟨all, rfl, h⟩
  | d + 1, i, all, hd, h => by
    have hi : i < few.length := by omega
    have e : few.getD i ⟨.empty, .empty, []⟩ = few[i] := by rw [List.getD_eq_getElem?_getD, List.getElem?_eq_getElem hi]; rfl
    simp only [extL]
    rw [e]
    by_cases hc : m.1.dst = few[i].src
    · rw [if_pos hc]
      obtain ⟨b, h1, h2⟩ := addM_ok hal h (hm few[i] (List.getElem_mem hi) hc) (m.2 ++ [(i : Int)])
      obtain ⟨b2, h3, h4⟩ := extL_ok hm d (i + 1) b (by omega) h2
      exact ⟨b2, by rw [h1]; exact h3, h4⟩
    · rw [if_neg hc]
      exact extL_ok hm d (i + 1) all (by omega) h
theorem addL_ok {few : List Gr} (hf : ∀ h ∈ few, Has a h) : ∀ (d i : Nat) (all : List Mk), d + i = few.length → In a all → ∃ b, addL few d i all = some b ∧ In a b
  | 0, _, all, _, h => ⟨all, rfl, h⟩
  | d + 1, i, all, hd, h => by
    have hi : i < few.length := by omega
    have e : few.getD i ⟨.empty, .empty, []⟩ = few[i] := by rw [List.getD_eq_getElem?_getD, List.getElem?_eq_getElem hi]; rfl
    simp only [addL]
    rw [e]
    obtain ⟨b, h1, h2⟩ := addM_ok hal h (hf few[i] (List.getElem_mem hi)) [(i : Int)]
    obtain ⟨b2, h3, h4⟩ := addL_ok hf d (i + 1) b (by omega) h2
    exact ⟨b2, by rw [h1]; exact h3, h4⟩
theorem runQ_ok {few : List Gr} (hc : ∀ g h, Has a g → h ∈ few → g.dst = h.src → Has a (thenG g h)) : ∀ (d p : Nat) (all : List Mk), In a all → ∃ b, runQ few d p all = some b ∧ In a b
  | 0, _, all, h => ⟨all, rfl, h⟩
  | d + 1, p, all, h => by
    simp only [runQ]
    by_cases hlt : p < all.length
    · have e : all.getD p (⟨.empty, .empty, []⟩, []) = all[p] := by rw [List.getD_eq_getElem?_getD, List.getElem?_eq_getElem hlt]; rfl
      rw [if_pos hlt, e]
      obtain ⟨b, h1, h2⟩ := extL_ok hal (m := all[p]) (fun k hk hs => hc _ k (h.sub _ (List.getElem_mem hlt)) hk hs) few.length 0 all (by omega) h
      obtain ⟨b2, h3, h4⟩ := runQ_ok hc d (p + 1) b h2
      exact ⟨b2, by rw [h1]; exact h3, h4⟩
    · rw [if_neg hlt]
      exact ⟨all, rfl, h⟩
end
theorem path_mono {first few : List Gr} (h : ∀ g ∈ first, g ∈ few) {g : Gr} {w : List Int} (hp : Path first g w) : ∃ v, Path few g v := by
  induction hp with
  | one hg =>
    obtain ⟨i, hi, e⟩ := List.getElem_of_mem (h _ (List.mem_of_getElem? hg))
    exact ⟨_, .one (i := i) (by rw [List.getElem?_eq_getElem hi, e])⟩
  | more _ hg hs ih =>
    obtain ⟨v, hv⟩ := ih
    obtain ⟨i, hi, e⟩ := List.getElem_of_mem (h _ (List.mem_of_getElem? hg))
    exact ⟨_, .more (i := i) hv (by rw [List.getElem?_eq_getElem hi, e]) hs⟩
theorem has_then {first : List Gr} {a : List Mk} (hf : ∀ g ∈ first, GTab g) (hq : closedQ first = some a) {g h : Gr} (hg : Has a g) (hh : Has a h) (hs : g.dst = h.src) : Has a (thenG g h) := by
  obtain ⟨h1, h2⟩ := closedQ_some hq
  obtain ⟨m, hm, rfl⟩ := hg
  obtain ⟨k, hk, rfl⟩ := hh
  exact h2 _ _ (path_join hf (h1.path m hm) (h1.path k hk) hs)
/-- The closure of what lies between a set and its closure is the closure. -/
theorem clos_sub {first few : List Gr} {a : List Mk} (hf : ∀ g ∈ first, GTab g) (hq : closedQ first = some a) (h1 : ∀ h ∈ few, Has a h) (h2 : ∀ h ∈ first, h ∈ few) : ∃ b, closedQ few = some b ∧ ∀ g, Has b g ↔ Has a g := by
  obtain ⟨hI, hP⟩ := closedQ_some hq
  obtain ⟨b0, e0, i0⟩ := addL_ok hI.len h1 few.length 0 [] (by omega) ⟨(fun m hm => by cases hm), List.Pairwise.nil⟩
  obtain ⟨b, e1, i1⟩ := runQ_ok hI.len (few := few) (fun g h hg hh hs => has_then hf hq hg (h1 h hh) hs) 2001 0 b0 i0
  have hb : closedQ few = some b := by
    unfold closedQ
    rw [e0]
    exact e1
  refine ⟨b, hb, fun g => ⟨fun ⟨m, hm, e⟩ => by rw [← e]; exact i1.sub m hm, fun ⟨m, hm, e⟩ => ?_⟩⟩
  obtain ⟨v, hv⟩ := path_mono h2 (hI.path m hm)
  rw [← e]
  exact (closedQ_some hb).2 _ _ hv
theorem readC_ends {c : Cl} {g : Gr} (h : readC c = some g) : g.src.size ≠ 0 ∧ g.dst.size ≠ 0 := by
  unfold readC at h
  split at h
  · cases h
  · rename_i hn
    split at h
    · cases h
      exact ⟨fun e => hn (.inl e), fun e => hn (.inr e)⟩
    · cases h
theorem path_ends {first : List Gr} (hf : ∀ g ∈ first, g.src.size ≠ 0 ∧ g.dst.size ≠ 0) {g : Gr} {w : List Int} (hp : Path first g w) : g.src.size ≠ 0 ∧ g.dst.size ≠ 0 := by
  induction hp with
  | one hg => exact hf _ (List.mem_of_getElem? hg)
  | more _ hg _ ih => exact ⟨ih.1, (hf _ (List.mem_of_getElem? hg)).2⟩
theorem readL_mem {l : List Cl} {r : List Gr} (h : readL l = some r) : (∀ g ∈ r, ∃ c ∈ l, readC c = some g) ∧ ∀ c ∈ l, ∃ g ∈ r, readC c = some g := by
  obtain ⟨e1, e2⟩ := readL_get l r h
  constructor
  · intro g hg
    obtain ⟨i, hi, rfl⟩ := List.getElem_of_mem hg
    exact ⟨l[i], List.getElem_mem (by omega), e2 i (by omega) hi⟩
  · intro c hc
    obtain ⟨i, hi, rfl⟩ := List.getElem_of_mem hc
    exact ⟨r[i], List.getElem_mem (by omega), e2 i hi (by omega)⟩
theorem closedF_of {l : List Cl} {r : List Gr} {b : List Mk} (hl : l.length ≤ 60) (hr : readL l = some r) (hb : closedQ r = some b) : closedF l 4 2 = (some b, 0) := by
  unfold closedF
  rw [if_neg (by omega), hr]
  simp only [hb]
theorem has_first {l : List Cl} {first : List Gr} {a : List Mk} (hq : closedQ first = some a) : ∀ g ∈ first, Has a g := fun g hg => by
  obtain ⟨i, hi, e⟩ := List.getElem_of_mem hg
  exact (closedQ_some hq).2 _ _ (.one (i := i) (by rw [List.getElem?_eq_getElem hi, e]))
/-- Another order, and doubles: the same closure. -/
theorem again_back {l l2 : List Cl} {a : List Mk} (hx : closedF l 4 2 = (some a, 0)) (h1 : ∀ c, c ∈ l2 ↔ c ∈ l) (h2 : l2.length ≤ 60) : ∃ b, closedF l2 4 2 = (some b, 0) ∧ ∀ g, Has b g ↔ Has a g := by
  obtain ⟨first, hr, hq⟩ := closedF_some hx
  obtain ⟨few, hr2, hs⟩ := readL_sub (fun c hc => (h1 c).1 hc) hr
  obtain ⟨r3, hr3, hs3⟩ := readL_sub (fun c hc => (h1 c).2 hc) hr2
  rw [hr] at hr3
  cases hr3
  obtain ⟨b, hb, hh⟩ := clos_sub (readL_tab hr) hq (fun g hg => has_first (l := l) hq g (hs g hg)) hs3
  exact ⟨b, closedF_of h2 hr2 hb, hh⟩
theorem has_ends {l : List Cl} {a : List Mk} (hx : closedF l 4 2 = (some a, 0)) {m : Mk} (hm : m ∈ a) : readC (callG m.1) = some m.1 := by
  obtain ⟨first, hr, hq⟩ := closedF_some hx
  have he := path_ends (fun g hg => by
    obtain ⟨c, _, hc⟩ := (readL_mem hr).1 g hg
    exact readC_ends hc) ((closedQ_some hq).1.path m hm)
  exact readC_callG (closed_tabs hx m hm) he.1 he.2
/-- The closure of the closure is itself. -/
theorem again_self {l P : List Cl} {a : List Mk} (hx : closedF l 4 2 = (some a, 0)) (h1 : ∀ c, c ∈ P ↔ c ∈ gcalls a) (h2 : P.length ≤ 60) : ∃ b, closedF P 4 2 = (some b, 0) ∧ ∀ g, Has b g ↔ Has a g := by
  obtain ⟨first, hr, hq⟩ := closedF_some hx
  obtain ⟨few, hr2⟩ := readL_some P fun c hc => by
    obtain ⟨m, hm, rfl⟩ := List.mem_map.1 ((h1 c).1 hc)
    exact ⟨_, has_ends hx hm⟩
  obtain ⟨f1, f2⟩ := readL_mem hr2
  obtain ⟨b, hb, hh⟩ := clos_sub (few := few) (readL_tab hr) hq (fun g hg => by
    obtain ⟨c, hc, hcg⟩ := f1 g hg
    obtain ⟨m, hm, rfl⟩ := List.mem_map.1 ((h1 c).1 hc)
    rw [has_ends hx hm] at hcg
    exact ⟨m, hm, Option.some.inj hcg⟩) (fun g hg => by
    obtain ⟨m, hm, rfl⟩ := has_first (l := l) hq g hg
    obtain ⟨k, hk, hck⟩ := f2 (callG m.1) ((h1 _).2 (List.mem_map_of_mem hm))
    rw [has_ends hx hm] at hck
    rw [Option.some.inj hck]
    exact hk)
  exact ⟨b, closedF_of h2 hr2 hb, hh⟩
theorem gcalls_has {a b : List Mk} (h : ∀ g, Has b g ↔ Has a g) (c : Cl) : c ∈ gcalls b ↔ c ∈ gcalls a := by
  have key : ∀ {x y : List Mk}, (∀ g, Has x g → Has y g) → c ∈ gcalls x → c ∈ gcalls y := fun hxy hc => by
    obtain ⟨m, hm, rfl⟩ := List.mem_map.1 hc
    obtain ⟨k, hk, e⟩ := hxy m.1 ⟨m, hm, rfl⟩
    exact List.mem_map.2 ⟨k, hk, by rw [e]⟩
  exact ⟨key fun g => (h g).1, key fun g => (h g).2⟩
/-- Two closures of the same graphs, in order: one row. -/
theorem rows_same {l l2 : List Cl} {a b : List Mk} (hx : closedF l 4 2 = (some a, 0)) (hy : closedF l2 4 2 = (some b, 0)) (h : ∀ g, Has b g ↔ Has a g) {P Q : List Cl} (hp : P.Perm (gcalls a)) (hs : P.Pairwise fun x y => lssC y x = false) (hq : Q.Perm (gcalls b)) (ht : Q.Pairwise fun x y => lssC y x = false) : P = Q :=
  ord_ext (ord_of hp (gcalls_diff hx) hs) (ord_of hq (gcalls_diff hy) ht) fun c => by rw [hp.mem_iff, hq.mem_iff, gcalls_has h]
/-- Two calls of a closure compose to one of it. -/
theorem comp_has {l P : List Cl} {a : List Mk} (hx : closedF l 4 2 = (some a, 0)) (h1 : ∀ c, c ∈ P ↔ c ∈ gcalls a) {x y : Cl} (hxP : x ∈ P) (hyP : y ∈ P) (h : (compF x y).2 = 0) : (compF x y).1 ∈ P := by
  obtain ⟨first, hr, hq⟩ := closedF_some hx
  obtain ⟨m, hm, rfl⟩ := List.mem_map.1 ((h1 x).1 hxP)
  obtain ⟨k, hk, rfl⟩ := List.mem_map.1 ((h1 y).1 hyP)
  revert h
  unfold compF
  rw [has_ends hx hm, has_ends hx hk]
  simp only
  split
  · rename_i hs
    intro _
    obtain ⟨t, ht, e⟩ := has_then (readL_tab hr) hq (g := m.1) (h := k.1) ⟨m, hm, rfl⟩ ⟨k, hk, rfl⟩ hs
    refine (h1 _).2 (List.mem_map.2 ⟨t, ht, ?_⟩)
    rw [e]
  · intro h
    cases h
end
section

theorem mem_drop_step {P : List Cl} {c : Cl} {i : Nat} (hi : i < P.length) (h : c ∈ P.drop i) (hne : P[i] ≠ c) : c ∈ P.drop (i + 1) := by
  rw [List.drop_eq_getElem_cons hi] at h
  rcases List.mem_cons.1 h with e | h
  · exact absurd e.symm hne
  · exact h
set_option maxHeartbeats 4000000 in
set_option maxRecDepth 100000 in
theorem has_true (A C : Option Addr) (cp cc : Nat) (P : List Cl) (c : Cl) (w : World) (hl : kCl.C w A P.length P) (hP : P.length ≤ 1000000) (hc : kAc.C w C c.arcs.length c.arcs) (hin : c ∈ P) :
    Calls Try.prog 30 #[.slice A P.length cp, .agg #[.string c.src, .string c.dst, .slice C c.arcs.length cc]] w fun e w' => e = .returned (.bool true) ∧ Below w.heap.size w w' := by
  have HL := Aside0.mk hl
  have HPL := Aside0.mk hP
  have HC := Aside0.mk hc
  have HB0 := Aside0.mk (show Below w.heap.size w (w.alloc (.cells #[.string c.src, .string c.dst, .slice C c.arcs.length cc] 34)) from below_alloc (Below.refl _ _) _)
  have HX0 : Aside0 (Blk (w.alloc (.cells #[.string c.src, .string c.dst, .slice C c.arcs.length cc] 34)) w.heap.size c C cc) := ⟨blk_new w _⟩
  have HIN := Aside0.mk hin
  clear hl hP hc hin
  go_enter Try.func30, Try.ntmps30
  go_wp2
  generalize w.alloc (.cells #[.string c.src, .string c.dst, .slice C c.arcs.length cc] 34) = W0 at HB0 HX0 ⊢
  generalize hbx : w.heap.size = bx at HX0 ⊢
  rw [hbx] at HB0
  go_loopg [5] P.length (fun kq v5 w' => ∃ (i : Nat), v5 = .int .i64 (i : Int) ∧ Aside0 (kq + i = P.length) ∧ Aside0 (c ∈ P.drop i) ∧ Aside0 (Below W0.heap.size W0 w'))
  case atStart => exact ⟨0, rfl, ⟨rfl⟩, ⟨HIN.out⟩, ⟨Below.refl _ _⟩⟩
  case round =>
    obtain ⟨i, rfl, HK, HD, HB⟩ := hrel
    by_cases hlt : i < P.length
    · have hdx : decide ((i : Int) < (P.length : Int)) = true := decide_eq_true (by omega)
      have hi0 : (i : Int) < (P.length : Int) := by omega
      have hib : wrap64 ((i : Int) + 1) = (i : Int) + 1 := by have := HPL.out; unfold wrap64; omega
      have HLT := Aside0.mk hlt
      have HB1 := Aside0.mk (show Below w.heap.size w wr by rw [← hbx] at HB0; exact below_step HB0.out HB.out)
      obtain ⟨ad, X, xc, ea, hxc, hx, hqa⟩ := cl_get2 (Kd.C_below HL.out HB1.out) i hlt
      have HQA := Aside0.mk hqa
      have HEQ := Aside0.mk (fun (W : World) (h : Below wr.heap.size wr W) => eq_calls X C xc cc P[i] c W (Kd.C_below hx h) (Kd.C_below HC.out (below_step HB1.out h)))
      have HBX := Aside0.mk (HX0.out.go HB.out)
      have HNX := Aside0.mk (fun h => mem_drop_step hlt HD.out h)
      subst ea
      clear hxc hx hqa
      generalize P[i] = x at HQA HEQ HNX
      by_cases he : x = c
      · have HEQ2 : Aside0 (∀ W, Below wr.heap.size wr W → Calls Try.prog 19 #[.agg #[.string x.src, .string x.dst, .slice X x.arcs.length xc], .agg #[.string c.src, .string c.dst, .slice C c.arcs.length cc]] W fun e w' => e = .returned (.bool true) ∧ Below W.heap.size W w') := ⟨fun W h => by
          have h1 := HEQ.out W h
          rw [show eqC x c = true from by rw [eqC_iff]; exact decide_eq_true he] at h1
          exact h1⟩
        clear HEQ
        have HEQ := HEQ2
        clear HEQ2 he
        go_wp2
        refine start_ (n := 6) (S := fun w' => Below wr.heap.size wr w') (ds := []) #[false, false, false, false, false, false] (by kernel_rfl) rfl rfl (below_drew1 (Below.refl _ _)) (fun hHeld => ?_)
        refine pure_ (i := 0) (N := some 12) (v := ?_) (a' := ?_) #[true, false, false, false, false, false] rfl rfl (by kernel_rfl) (fun _ _ _ h => h) (Or.inl ⟨by rfl, ?_⟩) ?_ ?_
        rotate_left
        · intro w'
          go_simp
          with_reducible rfl
        rotate_left
        · simp only [Act.put, List.setIfInBounds_toArray, List.set_cons_zero, List.set_cons_succ, i64_w, i32_w]
          rfl
        refine pure_ (i := 1) (N := some 13) (v := ?_) (a' := ?_) #[true, true, false, false, false, false] rfl rfl (by kernel_rfl) (fun _ _ _ h => h) (Or.inl ⟨by rfl, ?_⟩) ?_ ?_
        rotate_left
        · intro w'
          go_simp
          with_reducible rfl
        rotate_left
        · simp only [Act.put, List.setIfInBounds_toArray, List.set_cons_zero, List.set_cons_succ, i64_w, i32_w]
          rfl
        refine pure_ (i := 2) (N := some 14) (v := ?_) (a' := ?_) #[true, true, true, false, false, false] rfl rfl (by kernel_rfl) (fun _ _ _ h => h) (Or.inl ⟨by rfl, ?_⟩) ?_ ?_
        rotate_left
        · intro w'
          go_simp
          with_reducible rfl
        rotate_left
        · simp only [Act.put, List.setIfInBounds_toArray, List.set_cons_zero, List.set_cons_succ, i64_w, i32_w]
          rfl
        refine take_ (i := 3) (N := some 15) (v := ?_) (a' := ?_) #[true, true, true, true, false, false] rfl rfl (by kernel_rfl) (fun _ _ _ h => h) (Or.inl ⟨by rfl, ?_⟩) hHeld ?_ ?_
        rotate_left
        · rintro w' s0
          obtain ⟨q0, q1, q2⟩ := HQA.out w' s0
          go_simp
          with_reducible rfl
        rotate_left
        · simp only [Act.put, List.setIfInBounds_toArray, List.set_cons_zero, List.set_cons_succ, i64_w, i32_w]
          rfl
        refine take_ (i := 4) (N := some 16) (v := ?_) (a' := ?_) #[true, true, true, true, true, false] rfl rfl (by kernel_rfl) (fun _ _ _ h => h) (Or.inl ⟨by rfl, ?_⟩) hHeld ?_ ?_
        rotate_left
        · rintro w' s0
          obtain ⟨q0, q1, q2⟩ := Blk.cells (HBX.out.go s0)
          go_simp
          with_reducible rfl
        rotate_left
        · simp only [Act.put, List.setIfInBounds_toArray, List.set_cons_zero, List.set_cons_succ, i64_w, i32_w]
          rfl
        refine one_ (i := 5) (N := some 17) #[true, true, true, true, true, true] rfl rfl (by kernel_rfl) (by decide) (fun K hK => ?_)
        refine goes_ Try.func19 (by kernel_rfl) rfl #[.agg #[.string x.src, .string x.dst, .slice X x.arcs.length xc], .agg #[.string c.src, .string c.dst, .slice C c.arcs.length cc]] (by rfl) rfl rfl (by (try simp only [List.map_toArray, List.map_cons, List.map_nil]); first | done | rfl) ?_
        refine (HEQ.out _ hHeld).mono ?_
        rintro e2 w3 ⟨rfl, hb3⟩
        refine ⟨_, rfl, ?_⟩
        have hB := below_step hHeld hb3
        refine hK.out _ _ hB (fun _ => ?_)
        clear hK K hHeld hb3
        have hHeld := hB
        clear hB
        refine norm_ (a' := ?_) ?_ ?_
        rotate_left
        · show Act.put _ (some 17) _ = _
          simp only [Act.put, List.setIfInBounds_toArray, List.set_cons_zero, List.set_cons_succ, i64_w, i32_w]
          rfl
        refine done_ (by kernel_rfl) ?_
        have HB2 := Aside0.mk (below_step HB1.out hHeld)
        clear hHeld
        go_wp2
        go_ret
        exact ⟨rfl, HB2.out⟩
      · have HEQ2 : Aside0 (∀ W, Below wr.heap.size wr W → Calls Try.prog 19 #[.agg #[.string x.src, .string x.dst, .slice X x.arcs.length xc], .agg #[.string c.src, .string c.dst, .slice C c.arcs.length cc]] W fun e w' => e = .returned (.bool false) ∧ Below W.heap.size W w') := ⟨fun W h => by
          have h1 := HEQ.out W h
          rw [show eqC x c = false from by rw [eqC_iff]; exact decide_eq_false he] at h1
          exact h1⟩
        have HD2 := Aside0.mk (HNX.out he)
        clear HEQ
        have HEQ := HEQ2
        clear HEQ2 he
        go_wp2
        refine start_ (n := 6) (S := fun w' => Below wr.heap.size wr w') (ds := []) #[false, false, false, false, false, false] (by kernel_rfl) rfl rfl (below_drew1 (Below.refl _ _)) (fun hHeld => ?_)
        refine pure_ (i := 0) (N := some 12) (v := ?_) (a' := ?_) #[true, false, false, false, false, false] rfl rfl (by kernel_rfl) (fun _ _ _ h => h) (Or.inl ⟨by rfl, ?_⟩) ?_ ?_
        rotate_left
        · intro w'
          go_simp
          with_reducible rfl
        rotate_left
        · simp only [Act.put, List.setIfInBounds_toArray, List.set_cons_zero, List.set_cons_succ, i64_w, i32_w]
          rfl
        refine pure_ (i := 1) (N := some 13) (v := ?_) (a' := ?_) #[true, true, false, false, false, false] rfl rfl (by kernel_rfl) (fun _ _ _ h => h) (Or.inl ⟨by rfl, ?_⟩) ?_ ?_
        rotate_left
        · intro w'
          go_simp
          with_reducible rfl
        rotate_left
        · simp only [Act.put, List.setIfInBounds_toArray, List.set_cons_zero, List.set_cons_succ, i64_w, i32_w]
          rfl
        refine pure_ (i := 2) (N := some 14) (v := ?_) (a' := ?_) #[true, true, true, false, false, false] rfl rfl (by kernel_rfl) (fun _ _ _ h => h) (Or.inl ⟨by rfl, ?_⟩) ?_ ?_
        rotate_left
        · intro w'
          go_simp
          with_reducible rfl
        rotate_left
        · simp only [Act.put, List.setIfInBounds_toArray, List.set_cons_zero, List.set_cons_succ, i64_w, i32_w]
          rfl
        refine take_ (i := 3) (N := some 15) (v := ?_) (a' := ?_) #[true, true, true, true, false, false] rfl rfl (by kernel_rfl) (fun _ _ _ h => h) (Or.inl ⟨by rfl, ?_⟩) hHeld ?_ ?_
        rotate_left
        · rintro w' s0
          obtain ⟨q0, q1, q2⟩ := HQA.out w' s0
          go_simp
          with_reducible rfl
        rotate_left
        · simp only [Act.put, List.setIfInBounds_toArray, List.set_cons_zero, List.set_cons_succ, i64_w, i32_w]
          rfl
        refine take_ (i := 4) (N := some 16) (v := ?_) (a' := ?_) #[true, true, true, true, true, false] rfl rfl (by kernel_rfl) (fun _ _ _ h => h) (Or.inl ⟨by rfl, ?_⟩) hHeld ?_ ?_
        rotate_left
        · rintro w' s0
          obtain ⟨q0, q1, q2⟩ := Blk.cells (HBX.out.go s0)
          go_simp
          with_reducible rfl
        rotate_left
        · simp only [Act.put, List.setIfInBounds_toArray, List.set_cons_zero, List.set_cons_succ, i64_w, i32_w]
          rfl
        refine one_ (i := 5) (N := some 17) #[true, true, true, true, true, true] rfl rfl (by kernel_rfl) (by decide) (fun K hK => ?_)
        refine goes_ Try.func19 (by kernel_rfl) rfl #[.agg #[.string x.src, .string x.dst, .slice X x.arcs.length xc], .agg #[.string c.src, .string c.dst, .slice C c.arcs.length cc]] (by rfl) rfl rfl (by (try simp only [List.map_toArray, List.map_cons, List.map_nil]); first | done | rfl) ?_
        refine (HEQ.out _ hHeld).mono ?_
        rintro e2 w3 ⟨rfl, hb3⟩
        refine ⟨_, rfl, ?_⟩
        have hB := below_step hHeld hb3
        refine hK.out _ _ hB (fun _ => ?_)
        clear hK K hHeld hb3
        have hHeld := hB
        clear hB
        refine norm_ (a' := ?_) ?_ ?_
        rotate_left
        · show Act.put _ (some 17) _ = _
          simp only [Act.put, List.setIfInBounds_toArray, List.set_cons_zero, List.set_cons_succ, i64_w, i32_w]
          rfl
        refine done_ (by kernel_rfl) ?_
        have HB2 := Aside0.mk (below_step HB.out hHeld)
        clear hHeld
        go_wp2
        go_roundg (P.length - i - 1)
        case measure => have := HK.out; omega
        case rel => exact ⟨i + 1, by go_num, ⟨by have := HK.out; have := HLT.out; omega⟩, HD2, HB2⟩
    · exfalso
      have h1 := HD.out
      rw [List.drop_eq_nil_of_le (by omega)] at h1
      cases h1
/-- The calls from behind and from the front, by turns. -/
def bk (l : List Cl) : Nat → List Cl
  | 0 => []
  | j + 1 => bk l j ++ [l.getD (l.length - 1 - j) ⟨.empty, .empty, []⟩, l.getD j ⟨.empty, .empty, []⟩]
theorem bk_len (l : List Cl) : ∀ j, (bk l j).length = 2 * j
  | 0 => rfl
  | j + 1 => by
    rw [bk, List.length_append, bk_len l j]
    simp
    omega
theorem getD_mem {l : List Cl} {i : Nat} (h : i < l.length) (d : Cl) : l.getD i d ∈ l := by
  rw [List.getD_eq_getElem?_getD, List.getElem?_eq_getElem h]
  exact List.getElem_mem h
theorem bk_sub {l : List Cl} : ∀ j, j ≤ l.length → ∀ c ∈ bk l j, c ∈ l
  | 0, _, c, h => by cases h
  | j + 1, hj, c, h => by
    rw [bk, List.mem_append] at h
    rcases h with h | h
    · exact bk_sub j (by omega) c h
    · simp only [List.mem_cons, List.not_mem_nil, or_false] at h
      rcases h with rfl | rfl
      · exact getD_mem (by omega) _
      · exact getD_mem (by omega) _
theorem bk_all {l : List Cl} : ∀ j, j ≤ l.length → ∀ i, i < j → l.getD i ⟨.empty, .empty, []⟩ ∈ bk l j
  | 0, _, i, h => by omega
  | j + 1, hj, i, h => by
    rw [bk, List.mem_append]
    by_cases e : i = j
    · subst e
      exact .inr (by simp)
    · exact .inl (bk_all j (by omega) i (by omega))
theorem bk_mem (l : List Cl) (c : Cl) : c ∈ bk l l.length ↔ c ∈ l := by
  refine ⟨bk_sub l.length (Nat.le_refl _) c, fun h => ?_⟩
  obtain ⟨i, hi, rfl⟩ := List.getElem_of_mem h
  have h1 := bk_all l.length (Nat.le_refl _) i hi
  rwa [List.getD_eq_getElem?_getD, List.getElem?_eq_getElem hi] at h1
/-- Two calls of an older world appended. -/
theorem back_append {w0 W : World} {base : Nat} {v : Value} {xs : List Cl} {x y : Cl} {X Y : Option Addr} {xc yc rb : Nat} (h : (kOld w0).R 34 W base (fun _ => True) v xs) (hx : x.arcs.length ≤ xc) (hy : y.arcs.length ≤ yc) (hcx : kAc.C w0 X x.arcs.length x.arcs) (hcy : kAc.C w0 Y y.arcs.length y.arcs)
    (hb : W.heap[rb]? = some (.cells #[.string x.src, .string x.dst, .slice X x.arcs.length xc, .string y.src, .string y.dst, .slice Y y.arcs.length yc] 34 (0, 0))) (hl : xs.length ≤ 1000) (hbase : base ≤ W.heap.size) :
    ∃ v' W2, (Builtin.append_ #[22, 22] 22 #[v, .slice (some ⟨rb, 0, none⟩) 2 2]).run Try.prog W = .ok v' W2 ∧ (kOld w0).R 34 W2 base (fun _ => True) v' (xs ++ [x, y]) ∧ Below base W W2 := by
  obtain ⟨i0, hi, hz0, hz1, hz2⟩ := info_parts info34
  obtain ⟨_, inner, hown, hr⟩ := h
  have hrep : Reps ((kOld w0).M W base (fun k => True ∧ some k ≠ v.ownBlock)) 3 [x, y] [.string x.src, .string x.dst, .slice X x.arcs.length xc, .string y.src, .string y.dst, .slice Y y.arcs.length yc] :=
    (Reps.snoc (Reps.snoc (Reps.none _ 3) (p := x) (c := [.string x.src, .string x.dst, .slice X x.arcs.length xc]) ⟨X, xc, rfl, hx, hcx⟩ rfl) (p := y) (c := [.string y.src, .string y.dst, .slice Y y.arcs.length yc]) ⟨Y, yc, rfl, hy, hcy⟩ rfl)
  obtain ⟨v', W2, hrun, r1, r2, _⟩ := run_append_own (P := Try.prog) W base 22 22 34 i0 (.agg #[.string .empty, .string .empty, .slice none 0 0]) 3 56 Try.underlying22 hi hz0 hz1 hz2 rfl (by decide) v xs.length inner hown ⟨rb, 0, none⟩ 2 2 _ hrep.1
    (fun j u hu => by
      have h1 := blk_at hb (k := j) (v := u) (by simpa using hu)
      have e : ((⟨rb, 0, none⟩ : Addr).add j) = ⟨rb, j, none⟩ := by simp [Addr.add]; omega
      rw [e]
      exact h1)
    (fun u hu => by
      simp only [List.mem_cons, List.not_mem_nil, or_false] at hu
      rcases hu with rfl | rfl | rfl | rfl | rfl | rfl <;> rfl) (by simp only [maxLen]; omega) (by omega) hbase
  have hob : ∀ k, v.ownBlock = some k → base ≤ k := fun k hk => by
    rcases hown.2 with ⟨rfl, _⟩ | ⟨g, cap, cur, rfl, hg, _⟩
    · cases hk
    · cases hk
      exact hg
  refine ⟨v', W2, hrun, ⟨fun _ _ => trivial, inner ++ _, (by rw [List.length_append]; exact r1), ?_⟩, Below.grown (Below.refl _ _) r2 hbase hob⟩
  exact (Kd.reps_append hr hrep).imp_ (fun p c hp => hp)
end
section

theorem small12 {l : List Cl} (h : bigL l 12 = false) : l.length ≤ 12 ∧ ∀ c ∈ l, c.src.size ≤ maxLen ∧ c.dst.size ≤ maxLen ∧ c.arcs.length ≤ 1000000 := by
  simp only [bigL, Bool.or_eq_false_iff, decide_eq_false_iff_not, List.any_eq_false] at h
  refine ⟨by have := h.1; omega, fun c hc => ?_⟩
  have h2 := h.2 c hc
  simp only [bigC, Bool.or_eq_true, decide_eq_true_eq, not_or] at h2
  simp only [maxLen]
  refine ⟨by omega, by omega, by omega⟩
theorem path_sizes {first : List Gr} (hf : ∀ g ∈ first, g.src.size ≤ maxLen ∧ g.dst.size ≤ maxLen) {g : Gr} {w : List Int} (hp : Path first g w) : g.src.size ≤ maxLen ∧ g.dst.size ≤ maxLen := by
  induction hp with
  | one hg => exact hf _ (List.mem_of_getElem? hg)
  | more _ hg _ ih => exact ⟨ih.1, (hf _ (List.mem_of_getElem? hg)).2⟩
theorem readC_names {c : Cl} {g : Gr} (h : readC c = some g) : g.src = c.src ∧ g.dst = c.dst := by
  rw [readC_val] at h
  split at h
  · cases h
    exact ⟨rfl, rfl⟩
  · cases h
theorem gcalls_small {l : List Cl} {a : List Mk} (hs : ∀ c ∈ l, c.src.size ≤ maxLen ∧ c.dst.size ≤ maxLen ∧ c.arcs.length ≤ 1000000) (hx : closedF l 4 2 = (some a, 0)) : ∀ c ∈ gcalls a, c.src.size ≤ maxLen ∧ c.dst.size ≤ maxLen ∧ c.arcs.length ≤ 1000000 := by
  intro c hc
  obtain ⟨m, hm, rfl⟩ := List.mem_map.1 hc
  obtain ⟨first, hr, hq⟩ := closedF_some hx
  have h1 := path_sizes (fun g hg => by
    obtain ⟨d, hd, e⟩ := (readL_mem hr).1 g hg
    rw [(readC_names e).1, (readC_names e).2]
    exact ⟨(hs d hd).1, (hs d hd).2.1⟩) ((closedQ_some hq).1.path m hm)
  refine ⟨h1.1, h1.2, ?_⟩
  have := arcsN_len m.1.tab 36
  show (arcsN m.1.tab 36).length ≤ 1000000
  omega
set_option maxHeartbeats 4000000 in
set_option maxRecDepth 100000 in
/-- No closure. -/
theorem again_err (A : Option Addr) (cp : Nat) (l : List Cl) (w : World) (h : kCl.C w A l.length l) (hbig : bigL l 12 = false) {x : Int} (hne : x ≠ 0) (hx : closedF l 4 2 = (none, x)) :
    Calls Try.prog 9 #[.slice A l.length cp] w fun e w' => e = .returned (.bool true) ∧ Below w.heap.size w w' := by
  have hsm := small12 hbig
  have HBG := Aside0.mk (big_calls A cp l 12 w h (by omega))
  rw [hbig] at HBG
  have HT := Aside0.mk (fun (W : World) (hb : Below w.heap.size w W) => pclos_none (cp := cp) (Kd.C_below h hb) hsm.2 (by omega) hx hne)
  have e1 : (x != 0) = true := by simpa using hne
  clear hsm hbig hx hne h
  go_enter Try.func9, Try.ntmps9
  go_wp2_with (first | (go_at_call 11; refine HBG.out.mono ?_; rintro e w1 ⟨rfl, hb1⟩; have HB1 := Aside0.mk hb1; clear hb1) | (go_at_call 26; refine (HT.out _ HB1.out).mono ?_; rintro e w2 ⟨rfl, hb2⟩; have HB2 := Aside0.mk (below_step HB1.out hb2); clear hb2) | (go_at_call 12; refine (awake_calls _).mono ?_; rintro e wz ⟨rfl, hbz⟩; have HBZ := Aside0.mk (below_step HB2.out hbz); clear hbz))
  go_ret
  exact ⟨rfl, HBZ.out⟩
set_option maxHeartbeats 8000000 in
set_option maxRecDepth 100000 in
theorem again_law (A : Option Addr) (cp : Nat) (l : List Cl) (w : World) (h : kCl.C w A l.length l) (hl : l.length ≤ 9223372036854775807) :
    Calls Try.prog 9 #[.slice A l.length cp] w fun e w' => e = .returned (.bool true) ∧ Below w.heap.size w w' := by
  have HBG := Aside0.mk (big_calls A cp l 12 w h hl)
  cases hbig : bigL l 12 with
  | true =>
    rw [hbig] at HBG
    clear hbig h hl
    go_enter Try.func9, Try.ntmps9
    go_wp2_with (first | (go_at_call 11; refine HBG.out.mono ?_; rintro e w1 ⟨rfl, hb1⟩; have HB1 := Aside0.mk hb1; clear hb1) | (go_at_call 12; refine (awake_calls _).mono ?_; rintro e wz ⟨rfl, hbz⟩; have HBZ := Aside0.mk (below_step HB1.out hbz); clear hbz))
    go_ret
    exact ⟨rfl, HBZ.out⟩
  | false =>
  rcases closedF_cases l with ⟨a, hx, hal⟩ | hx | hx
  rotate_left
  · exact again_err A cp l w h hbig (by decide) hx
  · exact again_err A cp l w h hbig (by decide) hx
  rw [hbig] at HBG
  have hsm := small12 hbig
  obtain ⟨b, hy, hab⟩ := again_back hx (bk_mem l) (by rw [bk_len]; omega)
  have hbal : b.length ≤ 2000 := by
    obtain ⟨_, _, hq⟩ := closedF_some hy
    exact (closedQ_some hq).1.len
  have HT := Aside0.mk (fun (W : World) (hb : Below w.heap.size w W) => pclos_some (cp := cp) (Kd.C_below h hb) hsm.2 hl hx hal)
  have HX := Aside0.mk hx
  have HY := Aside0.mk hy
  have HAB := Aside0.mk hab
  have HBA := Aside0.mk hbal
  have HAL := Aside0.mk hal
  have HH := Aside0.mk h
  have HSM := Aside0.mk hsm
  have s0 : wrap64 ((l.length : Int) - 1) = (l.length : Int) - 1 := by have := hsm.1; unfold wrap64; omega
  clear hbig hx hy hab hbal hal h hl hsm
  go_enter Try.func9, Try.ntmps9
  go_wp2_with (first | (go_at_call 11; refine HBG.out.mono ?_; rintro e w1 ⟨rfl, hb1⟩; have HB1 := Aside0.mk hb1; clear hb1) | (go_at_call 26; refine (HT.out _ HB1.out).mono ?_; rintro e w2 ⟨A2, c2, P, rfl, hc2, hp2, hs2, hb2⟩; have HB2 := Aside0.mk (below_step HB1.out hb2); have HC2 := Aside0.mk hc2; have HP2 := Aside0.mk hp2; have HS2 := Aside0.mk hs2; clear hb2 hc2 hp2 hs2))
  have S0 := Aside0.mk s0
  clear s0
  have HPL := Aside0.mk (show P.length ≤ 2000 by rw [HP2.out.length_eq, List.length_map]; exact HAL.out)
  go_loopg [5, 6] l.length (fun kq v5 v6 w' => ∃ (j : Nat) (z : Int), v6 = .int .i64 z ∧ Aside0 (z = (l.length : Int) - 1 - (j : Int)) ∧ Aside0 (kq + j = l.length) ∧ Aside0 (Below w2.heap.size w2 w') ∧ Aside0 ((kOld w).R 34 w' w2.heap.size (fun _ => True) v5 (bk l j)))
  case atStart => exact ⟨0, _, rfl, ⟨by have := S0.out; omega⟩, ⟨by omega⟩, ⟨Below.refl _ _⟩, ⟨Kd.R_nil _ _ _ _ _⟩⟩
  case round =>
    obtain ⟨j, z, rfl, HZ, HK, HB, HV⟩ := hrel
    by_cases hlt : j < l.length
    · obtain ⟨k, hk⟩ : ∃ k : Nat, k = l.length - 1 - j := ⟨_, rfl⟩
      have hz : z = (k : Int) := by have := HZ.out; omega
      subst hz
      have hkl : k < l.length := by omega
      have hdx : decide ((0 : Int) ≤ (k : Int)) = true := decide_eq_true (by omega)
      have s0 : wrap64 ((l.length : Int) - 1) = (l.length : Int) - 1 := by have := HSM.out.1; unfold wrap64; omega
      have s1 : wrap64 ((l.length : Int) - 1 - (k : Int)) = (j : Int) := by have := HSM.out.1; unfold wrap64; omega
      have s2 : wrap64 ((k : Int) - 1) = (k : Int) - 1 := by have := HSM.out.1; unfold wrap64; omega
      have hk0 : (k : Int) < (l.length : Int) := by omega
      have hj0 : (j : Int) < (l.length : Int) := by omega
      have HLT := Aside0.mk hlt
      have HKE := Aside0.mk hk
      have HBL := Aside0.mk (show (bk l j).length ≤ 1000 by rw [bk_len]; have := HSM.out.1; omega)
      obtain ⟨ad1, X1, xc1, ea, hxc, hx, hqa⟩ := cl_get2 (Kd.C_below HH.out (below_step HB2.out HB.out)) k hkl
      obtain ⟨bd1, Y1, yc1, eb, hyc, hy, hqb⟩ := cl_get2 (Kd.C_below HH.out (below_step HB2.out HB.out)) j hlt
      obtain ⟨ad, X, xc, ea0, hxc0, hx0, hqa0⟩ := cl_get2 HH.out k hkl
      obtain ⟨bd, Y, yc, eb0, hyc0, hy0, hqb0⟩ := cl_get2 HH.out j hlt
      have eab : ad1 = bd1 := Option.some.inj (ea.symm.trans eb)
      have eaa : ad = ad1 := Option.some.inj (ea0.symm.trans ea)
      have ebb : bd = bd1 := Option.some.inj (eb0.symm.trans eb)
      subst eaa
      subst ebb
      have ex : Value.slice X l[k].arcs.length xc = Value.slice X1 l[k].arcs.length xc1 := Option.some.inj ((hqa0 wr (below_step HB2.out HB.out)).2.2.symm.trans (hqa wr (Below.refl _ _)).2.2)
      have ey : Value.slice Y l[j].arcs.length yc = Value.slice Y1 l[j].arcs.length yc1 := Option.some.inj ((hqb0 wr (below_step HB2.out HB.out)).2.2.symm.trans (hqb wr (Below.refl _ _)).2.2)
      injection ex with ex1 ex3 ex2
      injection ey with ey1 ey3 ey2
      clear ex3 ey3
      subst ex1
      subst ex2
      subst ey1
      subst ey2
      have HXC := Aside0.mk hxc
      have HYC := Aside0.mk hyc
      have HCX := Aside0.mk hx0
      have HCY := Aside0.mk hy0
      have HQA := Aside0.mk hqa
      have HQB := Aside0.mk hqb
      have HBK := Aside0.mk (show bk l (j + 1) = bk l j ++ [l[k], l[j]] by
        show bk l j ++ [l.getD (l.length - 1 - j) _, l.getD j _] = _
        rw [← hk, List.getD_eq_getElem?_getD, List.getD_eq_getElem?_getD, List.getElem?_eq_getElem hkl, List.getElem?_eq_getElem hlt]
        rfl)
      clear hx hy hx0 hy0 hqa hqb hqa0 hqb0 hxc hyc hxc0 hyc0 ea0 eb0
      subst eab
      generalize l[k] = x at HXC HCX HQA HBK
      generalize l[j] = y at HYC HCY HQB HBK
      subst ea
      clear eb hk hlt hkl
      go_wp2
      clear hdx
      refine start_ (n := 16) (S := fun w' => Below wr.heap.size wr w') (ds := [14]) #[false, false, false, false, false, false, false, false, false, false, false, false, false, false, false, false] (by kernel_rfl) rfl rfl (below_drew1 (Below.refl _ _)) (fun hHeld => ?_)
      refine pure_ (i := 0) (N := some 34) (v := ?_) (a' := ?_) #[true, false, false, false, false, false, false, false, false, false, false, false, false, false, false, false] rfl rfl (by kernel_rfl) (fun _ _ _ h => h) (Or.inl ⟨by rfl, ?_⟩) ?_ ?_
      rotate_left
      · intro w'
        go_simp
        with_reducible rfl
      rotate_left
      · simp only [Act.put, List.setIfInBounds_toArray, List.set_cons_zero, List.set_cons_succ, i64_w, i32_w]
        rfl
      refine pure_ (i := 1) (N := some 35) (v := ?_) (a' := ?_) #[true, true, false, false, false, false, false, false, false, false, false, false, false, false, false, false] rfl rfl (by kernel_rfl) (fun _ _ _ h => h) (Or.inl ⟨by rfl, ?_⟩) ?_ ?_
      rotate_left
      · intro w'
        go_simp
        with_reducible rfl
      rotate_left
      · simp only [Act.put, List.setIfInBounds_toArray, List.set_cons_zero, List.set_cons_succ, i64_w, i32_w]
        rfl
      refine pure_ (i := 2) (N := some 36) (v := ?_) (a' := ?_) #[true, true, true, false, false, false, false, false, false, false, false, false, false, false, false, false] rfl rfl (by kernel_rfl) (fun _ _ _ h => h) (Or.inl ⟨by rfl, ?_⟩) ?_ ?_
      rotate_left
      · intro w'
        go_simp
        with_reducible rfl
      rotate_left
      · simp only [Act.put, List.setIfInBounds_toArray, List.set_cons_zero, List.set_cons_succ, i64_w, i32_w]
        rfl
      refine pure_ (i := 3) (N := some 37) (v := ?_) (a' := ?_) #[true, true, true, true, false, false, false, false, false, false, false, false, false, false, false, false] rfl rfl (by kernel_rfl) (fun _ _ _ h => h) (Or.inl ⟨by rfl, ?_⟩) ?_ ?_
      rotate_left
      · intro w'
        go_simp
        with_reducible rfl
      rotate_left
      · simp only [Act.put, List.setIfInBounds_toArray, List.set_cons_zero, List.set_cons_succ, i64_w, i32_w]
        rfl
      refine take_ (i := 4) (N := some 38) (v := ?_) (a' := ?_) #[true, true, true, true, true, false, false, false, false, false, false, false, false, false, false, false] rfl rfl (by kernel_rfl) (fun _ _ _ h => h) (Or.inl ⟨by rfl, ?_⟩) hHeld ?_ ?_
      rotate_left
      · rintro w' s0
        obtain ⟨q0, q1, q2⟩ := HQA.out w' s0
        go_simp
        with_reducible rfl
      rotate_left
      · simp only [Act.put, List.setIfInBounds_toArray, List.set_cons_zero, List.set_cons_succ, i64_w, i32_w]
        rfl
      refine pure_ (i := 5) (N := some 39) (v := ?_) (a' := ?_) #[true, true, true, true, true, true, false, false, false, false, false, false, false, false, false, false] rfl rfl (by kernel_rfl) (fun _ _ _ h => h) (Or.inl ⟨by rfl, ?_⟩) ?_ ?_
      rotate_left
      · intro w'
        go_simp
        with_reducible rfl
      rotate_left
      · simp only [Act.put, List.setIfInBounds_toArray, List.set_cons_zero, List.set_cons_succ, i64_w, i32_w]
        rfl
      refine pure_ (i := 6) (N := some 40) (v := ?_) (a' := ?_) #[true, true, true, true, true, true, true, false, false, false, false, false, false, false, false, false] rfl rfl (by kernel_rfl) (fun _ _ _ h => h) (Or.inl ⟨by rfl, ?_⟩) ?_ ?_
      rotate_left
      · intro w'
        go_simp
        with_reducible rfl
      rotate_left
      · simp only [Act.put, List.setIfInBounds_toArray, List.set_cons_zero, List.set_cons_succ, i64_w, i32_w]
        rfl
      refine pure_ (i := 9) (N := some 43) (v := ?_) (a' := ?_) #[true, true, true, true, true, true, true, false, false, true, false, false, false, false, false, false] rfl rfl (by kernel_rfl) (fun _ _ _ h => h) (Or.inl ⟨by rfl, ?_⟩) ?_ ?_
      rotate_left
      · intro w'
        go_simp
        with_reducible rfl
      rotate_left
      · simp only [Act.put, List.setIfInBounds_toArray, List.set_cons_zero, List.set_cons_succ, i64_w, i32_w]
        rfl
      refine one_ (i := 7) (N := some 41) #[true, true, true, true, true, true, true, true, false, true, false, false, false, false, false, false] rfl rfl (by kernel_rfl) (by decide) (fun K hK => ?_)
      refine value_ (by rfl) rfl (w1 := _) (v := .int .i64 (l.length : Int)) (by go_simp; try rfl) ?_
      refine hK.out _ _ hHeld (fun _ => ?_)
      clear hK K
      refine norm_ (a' := ?_) ?_ ?_
      rotate_left
      · show Act.put _ (some 41) _ = _
        simp only [Act.put, List.setIfInBounds_toArray, List.set_cons_zero, List.set_cons_succ, i64_w, i32_w]
        rfl
      refine pure_ (i := 8) (N := some 42) (v := ?_) (a' := ?_) #[true, true, true, true, true, true, true, true, true, true, false, false, false, false, false, false] rfl rfl (by kernel_rfl) (fun _ _ _ h => h) (Or.inl ⟨by rfl, ?_⟩) ?_ ?_
      rotate_left
      · intro w'
        go_simp
        with_reducible rfl
      rotate_left
      · simp only [Act.put, List.setIfInBounds_toArray, List.set_cons_zero, List.set_cons_succ, i64_w, i32_w]
        rfl
      refine pure_ (i := 10) (N := some 44) (v := ?_) (a' := ?_) #[true, true, true, true, true, true, true, true, true, true, true, false, false, false, false, false] rfl rfl (by kernel_rfl) (fun _ _ _ h => h) (Or.inl ⟨by rfl, ?_⟩) ?_ ?_
      rotate_left
      · intro w'
        go_simp
        with_reducible rfl
      rotate_left
      · simp only [Act.put, List.setIfInBounds_toArray, List.set_cons_zero, List.set_cons_succ, i64_w, i32_w]
        rfl
      refine pure_ (i := 11) (N := some 45) (v := ?_) (a' := ?_) #[true, true, true, true, true, true, true, true, true, true, true, true, false, false, false, false] rfl rfl (by kernel_rfl) (fun _ _ _ h => h) (Or.inl ⟨by rfl, ?_⟩) ?_ ?_
      rotate_left
      · intro w'
        go_simp
        with_reducible rfl
      rotate_left
      · simp only [Act.put, List.setIfInBounds_toArray, List.set_cons_zero, List.set_cons_succ, i64_w, i32_w]
        rfl
      refine take_ (i := 12) (N := some 46) (v := ?_) (a' := ?_) #[true, true, true, true, true, true, true, true, true, true, true, true, true, false, false, false] rfl rfl (by kernel_rfl) (fun _ _ _ h => h) (Or.inl ⟨by rfl, ?_⟩) hHeld ?_ ?_
      rotate_left
      · rintro w' s0
        obtain ⟨q0, q1, q2⟩ := HQB.out w' s0
        go_simp
        with_reducible rfl
      rotate_left
      · simp only [Act.put, List.setIfInBounds_toArray, List.set_cons_zero, List.set_cons_succ, i64_w, i32_w]
        rfl
      refine one_ (i := 13) (N := some 47) #[true, true, true, true, true, true, true, true, true, true, true, true, true, true, false, false] rfl rfl (by kernel_rfl) (by decide) (fun K hK => ?_)
      refine value_ (by rfl) rfl (w1 := World.alloc wr.drew (.cells #[.string x.src, .string x.dst, .slice X x.arcs.length xc, .string y.src, .string y.dst, .slice Y y.arcs.length yc] 34)) (v := .slice (some ⟨wr.drew.heap.size, 0, none⟩) 2 2) (by go_simp) ?_
      have hB := below_step hHeld (below_alloc (Below.refl _ _) (.cells #[.string x.src, .string x.dst, .slice X x.arcs.length xc, .string y.src, .string y.dst, .slice Y y.arcs.length yc] 34))
      have hrow := blk_new wr.drew (.cells #[.string x.src, .string x.dst, .slice X x.arcs.length xc, .string y.src, .string y.dst, .slice Y y.arcs.length yc] 34)
      refine hK.out _ _ hB (fun _ => ?_)
      clear hK K hHeld
      have hHeld := hB
      clear hB
      refine norm_ (a' := ?_) ?_ ?_
      rotate_left
      · show Act.put _ (some 47) _ = _
        simp only [Act.put, List.setIfInBounds_toArray, List.set_cons_zero, List.set_cons_succ, i64_w, i32_w]
        rfl
      refine last_ (i := 14) (N := some 48) #[true, true, true, true, true, true, true, true, true, true, true, true, true, true, true, false] rfl rfl (by kernel_rfl) (by decide) (fun K hK => ?_)
      obtain ⟨v9, w9, hrun, hr9, hb9⟩ := back_append (Kd.R_below HV.out hHeld) HXC.out HYC.out HCX.out HCY.out hrow HBL.out (Nat.le_trans HB.out.size hHeld.size)
      have HRUN := Aside0.mk hrun
      have HV9 := Aside0.mk hr9
      have HB9 := Aside0.mk (Below.trans (below_step HB.out hHeld) hb9)
      clear hrun hr9 hb9
      refine value_ (by rfl) rfl (w1 := w9) (v := v9) (append_run22 (s := .tmp 34) (x := .tmp 47) rfl rfl (by rfl) (by rfl) HRUN.out) ?_
      refine hK.out _ _ ?_
      clear hK K hrow HRUN
      refine norm_ (a' := ?_) ?_ ?_
      rotate_left
      · show Act.put _ (some 48) _ = _
        simp only [Act.put, List.setIfInBounds_toArray, List.set_cons_zero, List.set_cons_succ, i64_w, i32_w]
        rfl
      refine pure_ (i := 15) (N := some 5) (v := ?_) (a' := ?_) #[true, true, true, true, true, true, true, true, true, true, true, true, true, true, true, true] rfl rfl (by kernel_rfl) (fun _ _ _ h => h) (Or.inl ⟨by rfl, ?_⟩) ?_ ?_
      rotate_left
      · intro w'
        go_simp
        with_reducible rfl
      rotate_left
      · simp only [Act.put, List.setIfInBounds_toArray, List.set_cons_zero, List.set_cons_succ, i64_w, i32_w]
        rfl
      refine done_ (by kernel_rfl) ?_
      go_wp2
      go_roundg (l.length - j - 1)
      case measure => have := HK.out; have := HLT.out; omega
      case rel => exact ⟨j + 1, (k : Int) - 1, by go_num, ⟨by have := HKE.out; have := HLT.out; omega⟩, ⟨by have := HK.out; have := HLT.out; omega⟩, HB9, ⟨by rw [HBK.out]; exact HV9.out⟩⟩
    · have hz : z = -1 := by have := HZ.out; have := HK.out; omega
      have hj : j = l.length := by have := HK.out; omega
      subst hz
      subst hj
      clear HK HZ hlt
      obtain ⟨A5, c5, ev5, hle5, hc5⟩ := Kd.R_reads HV.out
      subst ev5
      have HC5 := Aside0.mk (old_C hc5 (below_step HB2.out HB.out))
      have HTB := Aside0.mk (pclos_some (cp := c5) HC5.out (fun c hc => HSM.out.2 c ((bk_mem l c).1 hc)) (by rw [bk_len]; have := HSM.out.1; omega) HY.out HBA.out)
      have HB3 := Aside0.mk (below_step HB2.out HB.out)
      have HC3 := Aside0.mk (Kd.C_below HC2.out HB.out)
      clear hle5 hc5 HV
      go_wp2_with (first | (go_at_call 26; refine HTB.out.mono ?_; rintro e w4 ⟨A4, c4, Q, rfl, hc4, hp4, hs4, hb4⟩; have hPQ := rows_same HX.out HY.out HAB.out HP2.out HS2.out hp4 hs4; subst hPQ; have HB4 := Aside0.mk (below_step HB3.out hb4); have HC4 := Aside0.mk hc4; have HC6 := Aside0.mk (Kd.C_below HC3.out hb4); clear hb4 hc4 hp4 hs4) | (go_at_call 28; refine (eqall_same A2 A4 c2 c4 P _ HC6.out HC4.out).mono ?_; rintro e w5 ⟨rfl, hb5⟩; have HB5 := Aside0.mk (below_step HB4.out hb5); have HC7 := Aside0.mk (Kd.C_below HC6.out hb5); clear hb5))
      have HOP := Aside0.mk (ord_of HP2.out (gcalls_diff HX.out) HS2.out)
      have HMP := Aside0.mk (fun c => show c ∈ P ↔ c ∈ gcalls a from HP2.out.mem_iff)
      clear HC3 HC4 HC5 HC6 HTB HB HB3 HB4 HT
      go_loopg [9] P.length (fun kq v9 w' => ∃ (i : Nat), v9 = .int .i64 (i : Int) ∧ Aside0 (kq + i = P.length + 1) ∧ Aside0 (1 ≤ i) ∧ Aside0 (Below w5.heap.size w5 w'))
      case atStart => exact ⟨1, rfl, ⟨by omega⟩, ⟨Nat.le_refl _⟩, ⟨Below.refl _ _⟩⟩
      case round =>
        obtain ⟨i, rfl, HK, H1, HB⟩ := hrel
        by_cases hlt : i < P.length
        · obtain ⟨m, hm⟩ : ∃ m, i = m + 1 := ⟨i - 1, by have := H1.out; omega⟩
          have hdx : decide ((i : Int) < (P.length : Int)) = true := decide_eq_true (by omega)
          have hi0 : (i : Int) < (P.length : Int) := by omega
          have hm0 : (m : Int) < (P.length : Int) := by omega
          have hml : m < P.length := by omega
          have s1 : wrap64 ((i : Int) - 1) = (m : Int) := by have := HPL.out; unfold wrap64; omega
          have hib : wrap64 ((i : Int) + 1) = (i : Int) + 1 := by have := HPL.out; unfold wrap64; omega
          have HLT := Aside0.mk hlt
          obtain ⟨ad, X, xc, ea, hxc, hx, hqa⟩ := cl_get2 (Kd.C_below HC7.out HB.out) m hml
          obtain ⟨bd, Y, yc, eb, hyc, hy, hqb⟩ := cl_get2 (Kd.C_below HC7.out HB.out) i hlt
          have eab : ad = bd := Option.some.inj (ea.symm.trans eb)
          subst eab
          have HLS := Aside0.mk (fun (W : World) (hW : Below wr.heap.size wr W) => show Calls Try.prog 29 #[.agg #[.string P[m].src, .string P[m].dst, .slice X P[m].arcs.length xc], .agg #[.string P[i].src, .string P[i].dst, .slice Y P[i].arcs.length yc]] W fun e w' => e = .returned (.bool true) ∧ Below W.heap.size W w' from by
            have h1 := less_calls X Y xc yc P[m] P[i] W (Kd.C_below hx hW) (Kd.C_below hy hW)
            rw [List.pairwise_iff_getElem.1 HOP.out m i hml hlt (by omega)] at h1
            exact h1)
          have HQA := Aside0.mk hqa
          have HQB := Aside0.mk hqb
          clear hxc hx hqa hyc hy hqb hm
          generalize P[m] = x at HLS HQA
          generalize P[i] = y at HLS HQB
          subst ea
          clear eb hml
          go_wp2
          clear hdx
          refine start_ (n := 11) (S := fun w' => Below wr.heap.size wr w') (ds := []) #[false, false, false, false, false, false, false, false, false, false, false] (by kernel_rfl) rfl rfl (below_drew1 (Below.refl _ _)) (fun hHeld => ?_)
          refine pure_ (i := 0) (N := some 68) (v := ?_) (a' := ?_) #[true, false, false, false, false, false, false, false, false, false, false] rfl rfl (by kernel_rfl) (fun _ _ _ h => h) (Or.inl ⟨by rfl, ?_⟩) ?_ ?_
          rotate_left
          · intro w'
            go_simp
            with_reducible rfl
          rotate_left
          · simp only [Act.put, List.setIfInBounds_toArray, List.set_cons_zero, List.set_cons_succ, i64_w, i32_w]
            rfl
          refine pure_ (i := 1) (N := some 69) (v := ?_) (a' := ?_) #[true, true, false, false, false, false, false, false, false, false, false] rfl rfl (by kernel_rfl) (fun _ _ _ h => h) (Or.inl ⟨by rfl, ?_⟩) ?_ ?_
          rotate_left
          · intro w'
            go_simp
            with_reducible rfl
          rotate_left
          · simp only [Act.put, List.setIfInBounds_toArray, List.set_cons_zero, List.set_cons_succ, i64_w, i32_w]
            rfl
          refine pure_ (i := 2) (N := some 70) (v := ?_) (a' := ?_) #[true, true, true, false, false, false, false, false, false, false, false] rfl rfl (by kernel_rfl) (fun _ _ _ h => h) (Or.inl ⟨by rfl, ?_⟩) ?_ ?_
          rotate_left
          · intro w'
            go_simp
            with_reducible rfl
          rotate_left
          · simp only [Act.put, List.setIfInBounds_toArray, List.set_cons_zero, List.set_cons_succ, i64_w, i32_w]
            rfl
          refine pure_ (i := 3) (N := some 71) (v := ?_) (a' := ?_) #[true, true, true, true, false, false, false, false, false, false, false] rfl rfl (by kernel_rfl) (fun _ _ _ h => h) (Or.inl ⟨by rfl, ?_⟩) ?_ ?_
          rotate_left
          · intro w'
            go_simp
            with_reducible rfl
          rotate_left
          · simp only [Act.put, List.setIfInBounds_toArray, List.set_cons_zero, List.set_cons_succ, i64_w, i32_w]
            rfl
          refine take_ (i := 4) (N := some 72) (v := ?_) (a' := ?_) #[true, true, true, true, true, false, false, false, false, false, false] rfl rfl (by kernel_rfl) (fun _ _ _ h => h) (Or.inl ⟨by rfl, ?_⟩) hHeld ?_ ?_
          rotate_left
          · rintro w' s0
            obtain ⟨q0, q1, q2⟩ := HQA.out w' s0
            go_simp
            with_reducible rfl
          rotate_left
          · simp only [Act.put, List.setIfInBounds_toArray, List.set_cons_zero, List.set_cons_succ, i64_w, i32_w]
            rfl
          refine pure_ (i := 5) (N := some 73) (v := ?_) (a' := ?_) #[true, true, true, true, true, true, false, false, false, false, false] rfl rfl (by kernel_rfl) (fun _ _ _ h => h) (Or.inl ⟨by rfl, ?_⟩) ?_ ?_
          rotate_left
          · intro w'
            go_simp
            with_reducible rfl
          rotate_left
          · simp only [Act.put, List.setIfInBounds_toArray, List.set_cons_zero, List.set_cons_succ, i64_w, i32_w]
            rfl
          refine pure_ (i := 6) (N := some 74) (v := ?_) (a' := ?_) #[true, true, true, true, true, true, true, false, false, false, false] rfl rfl (by kernel_rfl) (fun _ _ _ h => h) (Or.inl ⟨by rfl, ?_⟩) ?_ ?_
          rotate_left
          · intro w'
            go_simp
            with_reducible rfl
          rotate_left
          · simp only [Act.put, List.setIfInBounds_toArray, List.set_cons_zero, List.set_cons_succ, i64_w, i32_w]
            rfl
          refine pure_ (i := 7) (N := some 75) (v := ?_) (a' := ?_) #[true, true, true, true, true, true, true, true, false, false, false] rfl rfl (by kernel_rfl) (fun _ _ _ h => h) (Or.inl ⟨by rfl, ?_⟩) ?_ ?_
          rotate_left
          · intro w'
            go_simp
            with_reducible rfl
          rotate_left
          · simp only [Act.put, List.setIfInBounds_toArray, List.set_cons_zero, List.set_cons_succ, i64_w, i32_w]
            rfl
          refine take_ (i := 8) (N := some 76) (v := ?_) (a' := ?_) #[true, true, true, true, true, true, true, true, true, false, false] rfl rfl (by kernel_rfl) (fun _ _ _ h => h) (Or.inl ⟨by rfl, ?_⟩) hHeld ?_ ?_
          rotate_left
          · rintro w' s0
            obtain ⟨q0, q1, q2⟩ := HQB.out w' s0
            go_simp
            with_reducible rfl
          rotate_left
          · simp only [Act.put, List.setIfInBounds_toArray, List.set_cons_zero, List.set_cons_succ, i64_w, i32_w]
            rfl
          refine one_ (i := 9) (N := some 77) #[true, true, true, true, true, true, true, true, true, true, false] rfl rfl (by kernel_rfl) (by decide) (fun K hK => ?_)
          refine goes_ Try.func29 (by kernel_rfl) rfl #[.agg #[.string x.src, .string x.dst, .slice X x.arcs.length xc], .agg #[.string y.src, .string y.dst, .slice Y y.arcs.length yc]] (by rfl) rfl rfl (by (try simp only [List.map_toArray, List.map_cons, List.map_nil]); first | done | rfl) ?_
          refine (HLS.out _ hHeld).mono ?_
          rintro e2 w3 ⟨rfl, hb3⟩
          refine ⟨_, rfl, ?_⟩
          have hB := below_step hHeld hb3
          refine hK.out _ _ hB (fun _ => ?_)
          clear hK K hHeld hb3
          have hHeld := hB
          clear hB
          refine norm_ (a' := ?_) ?_ ?_
          rotate_left
          · show Act.put _ (some 77) _ = _
            simp only [Act.put, List.setIfInBounds_toArray, List.set_cons_zero, List.set_cons_succ, i64_w, i32_w]
            rfl
          refine pure_ (i := 10) (N := some 78) (v := ?_) (a' := ?_) #[true, true, true, true, true, true, true, true, true, true, true] rfl rfl (by kernel_rfl) (fun _ _ _ h => h) (Or.inl ⟨by rfl, ?_⟩) ?_ ?_
          rotate_left
          · intro w'
            go_simp
            with_reducible rfl
          rotate_left
          · simp only [Act.put, List.setIfInBounds_toArray, List.set_cons_zero, List.set_cons_succ, i64_w, i32_w]
            rfl
          refine done_ (by kernel_rfl) ?_
          have HB8 := Aside0.mk (below_step HB.out hHeld)
          clear hHeld
          go_wp2
          go_roundg (P.length - i)
          case measure => have := HK.out; have := HLT.out; omega
          case rel => exact ⟨i + 1, by go_num, ⟨by have := HK.out; have := HLT.out; omega⟩, ⟨by omega⟩, HB8⟩
        · have hdx : decide ((i : Int) < (P.length : Int)) = false := decide_eq_false (by omega)
          have HB6 := Aside0.mk (below_step HB5.out HB.out)
          by_cases h60 : 60 < P.length
          · have d1 : decide ((60 : Int) < (P.length : Int)) = true := decide_eq_true (by omega)
            go_wp2_with (go_at_call 12; refine (awake_calls _).mono ?_; rintro e wz ⟨rfl, hbz⟩; have HBZ := Aside0.mk (below_step HB6.out hbz); clear hbz)
            go_ret
            exact ⟨rfl, HBZ.out⟩
          · have d1 : decide ((60 : Int) < (P.length : Int)) = false := decide_eq_false (by omega)
            obtain ⟨b3, hy3, hab3⟩ := again_self HX.out HMP.out (by omega)
            have hb3l : b3.length ≤ 2000 := by
              obtain ⟨_, _, hq⟩ := closedF_some hy3
              exact (closedQ_some hq).1.len
            have HC8 := Aside0.mk (Kd.C_below HC7.out HB.out)
            have HPS := Aside0.mk (fun c (hc : c ∈ P) => gcalls_small HSM.out.2 HX.out c ((HMP.out c).1 hc))
            have HT3 := Aside0.mk (pclos_some (cp := c2) HC8.out HPS.out (by omega) hy3 hb3l)
            have HRS := Aside0.mk (fun (Q : List Cl) hq ht => rows_same HX.out hy3 hab3 HP2.out HS2.out (Q := Q) hq ht)
            have H60 := Aside0.mk (show P.length ≤ 60 by omega)
            clear hy3 hab3 hb3l
            go_wp2_with (first | (go_at_call 26; refine HT3.out.mono ?_; rintro e w7 ⟨A7, c7, Q, rfl, hc7, hp7, hs7, hb7⟩; have hPQ := HRS.out Q hp7 hs7; subst hPQ; have HB7 := Aside0.mk (below_step HB6.out hb7); have HC9 := Aside0.mk hc7; have HC10 := Aside0.mk (Kd.C_below HC8.out hb7); clear hb7 hc7 hp7 hs7) | (go_at_call 28; refine (eqall_same A2 A7 c2 c7 P _ HC10.out HC9.out).mono ?_; rintro e w8 ⟨rfl, hb8⟩; have HB8 := Aside0.mk (below_step HB7.out hb8); have HC11 := Aside0.mk (Kd.C_below HC10.out hb8); clear hb8))
            clear hdx d1 hlt h60 HC9 HC10 HT3 HRS HK H1 HB
            go_loopg [12] P.length (fun kq v12 w' => ∃ (i : Nat), v12 = .int .i64 (i : Int) ∧ Aside0 (kq + i = P.length) ∧ Aside0 (Below w8.heap.size w8 w'))
            case atStart => exact ⟨0, rfl, ⟨rfl⟩, ⟨Below.refl _ _⟩⟩
            case round =>
              obtain ⟨i, rfl, HK, HB⟩ := hrel
              by_cases hlt : i < P.length
              · have hdx : decide ((i : Int) < (P.length : Int)) = true := decide_eq_true (by omega)
                have hib : wrap64 ((i : Int) + 1) = (i : Int) + 1 := by have := HPL.out; unfold wrap64; omega
                have HLI := Aside0.mk hlt
                have HB0 := HB
                clear HB
                go_wp2
                clear hdx
                go_loopg [13] P.length (fun kq v13 w' => ∃ (k : Nat), v13 = .int .i64 (k : Int) ∧ Aside0 (kq + k = P.length) ∧ Aside0 (Below w8.heap.size w8 w'))
                case atStart => exact ⟨0, rfl, ⟨rfl⟩, HB0⟩
                case round =>
                  clear HB0
                  obtain ⟨k, rfl, HK2, HB⟩ := hrel
                  by_cases hlt2 : k < P.length
                  · have hdx : decide ((k : Int) < (P.length : Int)) = true := decide_eq_true (by omega)
                    have hi0 : (i : Int) < (P.length : Int) := by omega
                    have hk0 : (k : Int) < (P.length : Int) := by omega
                    have hib2 : wrap64 ((k : Int) + 1) = (k : Int) + 1 := by have := HPL.out; unfold wrap64; omega
                    have HLK := Aside0.mk hlt2
                    obtain ⟨ad, X, xc, ea, hxc, hx, hqa⟩ := cl_get2 (Kd.C_below HC11.out HB.out) i hlt
                    obtain ⟨bd, Y, yc, eb, hyc, hy, hqb⟩ := cl_get2 (Kd.C_below HC11.out HB.out) k hlt2
                    have eab : ad = bd := Option.some.inj (ea.symm.trans eb)
                    subst eab
                    have HCS := Aside0.mk (fun (W : World) (hW : Below wr.heap.size wr W) => comp_calls X Y xc yc P[i] P[k] W (Kd.C_below hx hW) (HPS.out _ (List.getElem_mem hlt)).2.2 (Kd.C_below hy hW) (HPS.out _ (List.getElem_mem hlt2)).2.2)
                    have HHS := Aside0.mk (fun h => comp_has HX.out HMP.out (List.getElem_mem hlt) (List.getElem_mem hlt2) h)
                    have HQA := Aside0.mk hqa
                    have HQB := Aside0.mk hqb
                    clear hxc hx hqa hyc hy hqb
                    generalize P[i] = x at HCS HHS HQA
                    generalize P[k] = y at HCS HHS HQB
                    obtain ⟨q, hq⟩ : ∃ t, t = (compF x y).1 := ⟨_, rfl⟩
                    obtain ⟨z, hz⟩ : ∃ t, t = (compF x y).2 := ⟨_, rfl⟩
                    rw [← hq, ← hz] at HHS
                    have HCO := Aside0.mk (fun (W : World) (hW : Below wr.heap.size wr W) => show Calls Try.prog 18 #[.agg #[.string x.src, .string x.dst, .slice X x.arcs.length xc], .agg #[.string y.src, .string y.dst, .slice Y y.arcs.length yc]] W fun e w' => ∃ A9 c9, e = .returned (.tuple #[.agg #[.string q.src, .string q.dst, .slice A9 q.arcs.length c9], .int .i64 z]) ∧ kAc.R 24 w' wr.heap.size (fun _ => True) (.slice A9 q.arcs.length c9) q.arcs ∧ Below W.heap.size W w' from by
                      refine (HCS.out W hW).mono ?_
                      rintro e w' ⟨v, rfl, ⟨u, rfl, hr⟩, hb⟩
                      rw [← hq] at hr
                      rw [← hq, ← hz]
                      obtain ⟨A9, c9, ev9⟩ := Kd.R_slice hr
                      subst ev9
                      exact ⟨A9, c9, rfl, Kd.R_lower hr hW.size, hb⟩)
                    clear HCS hq hz
                    subst ea
                    clear eb
                    go_wp2
                    clear hdx
                    by_cases hz0 : z = 0
                    · subst hz0
                      have HIN := Aside0.mk (HHS.out rfl)
                      refine start_ (n := 15) (S := fun w' => Below wr.heap.size wr w') (ds := [13]) #[false, false, false, false, false, false, false, false, false, false, false, false, false, false, false] (by kernel_rfl) rfl rfl (below_drew1 (Below.refl _ _)) (fun hHeld => ?_)
                      refine pure_ (i := 0) (N := some 109) (v := ?_) (a' := ?_) #[true, false, false, false, false, false, false, false, false, false, false, false, false, false, false] rfl rfl (by kernel_rfl) (fun _ _ _ h => h) (Or.inl ⟨by rfl, ?_⟩) ?_ ?_
                      rotate_left
                      · intro w'
                        go_simp
                        with_reducible rfl
                      rotate_left
                      · simp only [Act.put, List.setIfInBounds_toArray, List.set_cons_zero, List.set_cons_succ, i64_w, i32_w]
                        rfl
                      refine pure_ (i := 1) (N := some 110) (v := ?_) (a' := ?_) #[true, true, false, false, false, false, false, false, false, false, false, false, false, false, false] rfl rfl (by kernel_rfl) (fun _ _ _ h => h) (Or.inl ⟨by rfl, ?_⟩) ?_ ?_
                      rotate_left
                      · intro w'
                        go_simp
                        with_reducible rfl
                      rotate_left
                      · simp only [Act.put, List.setIfInBounds_toArray, List.set_cons_zero, List.set_cons_succ, i64_w, i32_w]
                        rfl
                      refine pure_ (i := 2) (N := some 111) (v := ?_) (a' := ?_) #[true, true, true, false, false, false, false, false, false, false, false, false, false, false, false] rfl rfl (by kernel_rfl) (fun _ _ _ h => h) (Or.inl ⟨by rfl, ?_⟩) ?_ ?_
                      rotate_left
                      · intro w'
                        go_simp
                        with_reducible rfl
                      rotate_left
                      · simp only [Act.put, List.setIfInBounds_toArray, List.set_cons_zero, List.set_cons_succ, i64_w, i32_w]
                        rfl
                      refine take_ (i := 3) (N := some 112) (v := ?_) (a' := ?_) #[true, true, true, true, false, false, false, false, false, false, false, false, false, false, false] rfl rfl (by kernel_rfl) (fun _ _ _ h => h) (Or.inl ⟨by rfl, ?_⟩) hHeld ?_ ?_
                      rotate_left
                      · rintro w' s0
                        obtain ⟨q0, q1, q2⟩ := HQA.out w' s0
                        go_simp
                        with_reducible rfl
                      rotate_left
                      · simp only [Act.put, List.setIfInBounds_toArray, List.set_cons_zero, List.set_cons_succ, i64_w, i32_w]
                        rfl
                      refine pure_ (i := 4) (N := some 113) (v := ?_) (a' := ?_) #[true, true, true, true, true, false, false, false, false, false, false, false, false, false, false] rfl rfl (by kernel_rfl) (fun _ _ _ h => h) (Or.inl ⟨by rfl, ?_⟩) ?_ ?_
                      rotate_left
                      · intro w'
                        go_simp
                        with_reducible rfl
                      rotate_left
                      · simp only [Act.put, List.setIfInBounds_toArray, List.set_cons_zero, List.set_cons_succ, i64_w, i32_w]
                        rfl
                      refine pure_ (i := 5) (N := some 114) (v := ?_) (a' := ?_) #[true, true, true, true, true, true, false, false, false, false, false, false, false, false, false] rfl rfl (by kernel_rfl) (fun _ _ _ h => h) (Or.inl ⟨by rfl, ?_⟩) ?_ ?_
                      rotate_left
                      · intro w'
                        go_simp
                        with_reducible rfl
                      rotate_left
                      · simp only [Act.put, List.setIfInBounds_toArray, List.set_cons_zero, List.set_cons_succ, i64_w, i32_w]
                        rfl
                      refine pure_ (i := 6) (N := some 115) (v := ?_) (a' := ?_) #[true, true, true, true, true, true, true, false, false, false, false, false, false, false, false] rfl rfl (by kernel_rfl) (fun _ _ _ h => h) (Or.inl ⟨by rfl, ?_⟩) ?_ ?_
                      rotate_left
                      · intro w'
                        go_simp
                        with_reducible rfl
                      rotate_left
                      · simp only [Act.put, List.setIfInBounds_toArray, List.set_cons_zero, List.set_cons_succ, i64_w, i32_w]
                        rfl
                      refine take_ (i := 7) (N := some 116) (v := ?_) (a' := ?_) #[true, true, true, true, true, true, true, true, false, false, false, false, false, false, false] rfl rfl (by kernel_rfl) (fun _ _ _ h => h) (Or.inl ⟨by rfl, ?_⟩) hHeld ?_ ?_
                      rotate_left
                      · rintro w' s0
                        obtain ⟨q0, q1, q2⟩ := HQB.out w' s0
                        go_simp
                        with_reducible rfl
                      rotate_left
                      · simp only [Act.put, List.setIfInBounds_toArray, List.set_cons_zero, List.set_cons_succ, i64_w, i32_w]
                        rfl
                      refine join_ (σ := Nat × Option Addr × Nat) 2 #[true, true, true, true, true, true, true, true, true, true, true, true, true, false, false] (fun r => [(117, .tuple #[(.agg #[.string q.src, .string q.dst, .slice r.2.1 q.arcs.length r.2.2]), .int .i64 0]), (108, .tuple #[(.agg #[.string q.src, .string q.dst, .slice r.2.1 q.arcs.length r.2.2]), .int .i64 0]), (118, (.agg #[.string q.src, .string q.dst, .slice r.2.1 q.arcs.length r.2.2])), (119, .int .i64 0), (14, .pointer (some ⟨r.1, 0, none⟩))]) (fun r w' => Below wr.heap.size wr w' ∧ w'.heap[r.1]? = some (.cells #[.string ⟨#[]⟩, .string ⟨#[]⟩, .slice none 0 0] 34 (0, 0)) ∧ kAc.R 24 w' wr.heap.size (fun _ => True) (.slice r.2.1 q.arcs.length r.2.2) q.arcs ∧ wr.heap.size ≤ r.1) ?cont ?paths
                      case paths =>
                        intro HK
                        have HJ := Aside0.mk HK
                        clear HK
                        refine two_ (i := 8) (j := 12) (Ni := some 117) (Nj := some 14) #[true, true, true, true, true, true, true, true, true, false, false, false, false, false, false] #[true, true, true, true, true, true, true, true, false, false, false, false, true, false, false] rfl rfl rfl rfl (by kernel_rfl) (by decide) (by decide) (fun K hK => ?_) (fun K hK => ?_)
                        · refine goes_ Try.func18 (by kernel_rfl) rfl #[.agg #[.string x.src, .string x.dst, .slice X x.arcs.length xc], .agg #[.string y.src, .string y.dst, .slice Y y.arcs.length yc]] (by rfl) rfl rfl (by (try simp only [List.map_toArray, List.map_cons, List.map_nil]); first | done | rfl) ?_
                          refine (HCO.out _ hHeld).mono ?_
                          rintro e2 w3 ⟨A9, c9, rfl, hr9, hb9⟩
                          refine ⟨_, rfl, ?_⟩
                          have hB := below_step hHeld hb9
                          refine hK.out _ _ hB (fun _ => ?_)
                          clear hK
                          refine norm_ (a' := ?_) ?_ ?_
                          rotate_left
                          · show Act.put _ (some 117) _ = _
                            simp only [Act.put, List.setIfInBounds_toArray, List.set_cons_zero, List.set_cons_succ, i64_w, i32_w]
                            rfl
                          refine pure_ (i := 9) (N := some 108) (v := ?_) (a' := ?_) #[true, true, true, true, true, true, true, true, true, true, false, false, false, false, false] rfl rfl (by kernel_rfl) (fun _ _ _ h => h) (Or.inl ⟨by rfl, ?_⟩) ?_ ?_
                          rotate_left
                          · intro w'
                            go_simp
                            with_reducible rfl
                          rotate_left
                          · simp only [Act.put, List.setIfInBounds_toArray, List.set_cons_zero, List.set_cons_succ, i64_w, i32_w]
                            rfl
                          refine pure_ (i := 10) (N := some 118) (v := ?_) (a' := ?_) #[true, true, true, true, true, true, true, true, true, true, true, false, false, false, false] rfl rfl (by kernel_rfl) (fun _ _ _ h => h) (Or.inl ⟨by rfl, ?_⟩) ?_ ?_
                          rotate_left
                          · intro w'
                            go_simp
                            with_reducible rfl
                          rotate_left
                          · simp only [Act.put, List.setIfInBounds_toArray, List.set_cons_zero, List.set_cons_succ, i64_w, i32_w]
                            rfl
                          refine pure_ (i := 11) (N := some 119) (v := ?_) (a' := ?_) #[true, true, true, true, true, true, true, true, true, true, true, true, false, false, false] rfl rfl (by kernel_rfl) (fun _ _ _ h => h) (Or.inl ⟨by rfl, ?_⟩) ?_ ?_
                          rotate_left
                          · intro w'
                            go_simp
                            with_reducible rfl
                          rotate_left
                          · simp only [Act.put, List.setIfInBounds_toArray, List.set_cons_zero, List.set_cons_succ, i64_w, i32_w]
                            rfl
                          refine one_ (i := 12) (N := some 14) #[true, true, true, true, true, true, true, true, true, true, true, true, true, false, false] rfl rfl (by kernel_rfl) (by decide) (fun K hK => ?_)
                          refine value_ (by rfl) rfl (w1 := World.alloc w3 (.cells #[.string ⟨#[]⟩, .string ⟨#[]⟩, .slice none 0 0] 34)) (v := .pointer (some ⟨w3.heap.size, 0, none⟩)) (by go_simp) ?_
                          have hB2 := below_step hB (below_alloc (Below.refl _ _) (.cells #[.string ⟨#[]⟩, .string ⟨#[]⟩, .slice none 0 0] 34))
                          refine hK.out _ _ hB2 (fun _ => ?_)
                          clear hK
                          refine norm_ ?_ (HJ.out (w3.heap.size, A9, c9) _ ⟨hB2, blk_new w3 _, Kd.R_below hr9 (below_alloc (Below.refl _ _) _), hB.size⟩)
                          simp only [putAll, Act.put, List.setIfInBounds_toArray, List.set_cons_zero, List.set_cons_succ]
                        · refine value_ (by rfl) rfl (w1 := World.alloc wr.drew (.cells #[.string ⟨#[]⟩, .string ⟨#[]⟩, .slice none 0 0] 34)) (v := .pointer (some ⟨wr.drew.heap.size, 0, none⟩)) (by go_simp) ?_
                          have hB2 := below_step hHeld (below_alloc (Below.refl _ _) (.cells #[.string ⟨#[]⟩, .string ⟨#[]⟩, .slice none 0 0] 34))
                          have hz := blk_new wr.drew (.cells #[.string ⟨#[]⟩, .string ⟨#[]⟩, .slice none 0 0] 34)
                          refine hK.out _ _ hB2 (fun _ => ?_)
                          clear hK
                          refine norm_ (a' := ?_) ?_ ?_
                          rotate_left
                          · show Act.put _ (some 14) _ = _
                            simp only [Act.put, List.setIfInBounds_toArray, List.set_cons_zero, List.set_cons_succ, i64_w, i32_w]
                            rfl
                          refine one_ (i := 8) (N := some 117) #[true, true, true, true, true, true, true, true, true, false, false, false, true, false, false] rfl rfl (by kernel_rfl) (by decide) (fun K hK => ?_)
                          refine goes_ Try.func18 (by kernel_rfl) rfl #[.agg #[.string x.src, .string x.dst, .slice X x.arcs.length xc], .agg #[.string y.src, .string y.dst, .slice Y y.arcs.length yc]] (by rfl) rfl rfl (by (try simp only [List.map_toArray, List.map_cons, List.map_nil]); first | done | rfl) ?_
                          refine (HCO.out _ hB2).mono ?_
                          rintro e2 w3 ⟨A9, c9, rfl, hr9, hb9⟩
                          refine ⟨_, rfl, ?_⟩
                          have hB3 := below_step hB2 hb9
                          refine hK.out _ _ hB3 (fun _ => ?_)
                          clear hK
                          refine norm_ (a' := ?_) ?_ ?_
                          rotate_left
                          · show Act.put _ (some 117) _ = _
                            simp only [Act.put, List.setIfInBounds_toArray, List.set_cons_zero, List.set_cons_succ, i64_w, i32_w]
                            rfl
                          refine pure_ (i := 9) (N := some 108) (v := ?_) (a' := ?_) #[true, true, true, true, true, true, true, true, true, true, false, false, true, false, false] rfl rfl (by kernel_rfl) (fun _ _ _ h => h) (Or.inl ⟨by rfl, ?_⟩) ?_ ?_
                          rotate_left
                          · intro w'
                            go_simp
                            with_reducible rfl
                          rotate_left
                          · simp only [Act.put, List.setIfInBounds_toArray, List.set_cons_zero, List.set_cons_succ, i64_w, i32_w]
                            rfl
                          refine pure_ (i := 10) (N := some 118) (v := ?_) (a' := ?_) #[true, true, true, true, true, true, true, true, true, true, true, false, true, false, false] rfl rfl (by kernel_rfl) (fun _ _ _ h => h) (Or.inl ⟨by rfl, ?_⟩) ?_ ?_
                          rotate_left
                          · intro w'
                            go_simp
                            with_reducible rfl
                          rotate_left
                          · simp only [Act.put, List.setIfInBounds_toArray, List.set_cons_zero, List.set_cons_succ, i64_w, i32_w]
                            rfl
                          refine pure_ (i := 11) (N := some 119) (v := ?_) (a' := ?_) #[true, true, true, true, true, true, true, true, true, true, true, true, true, false, false] rfl rfl (by kernel_rfl) (fun _ _ _ h => h) (Or.inl ⟨by rfl, ?_⟩) ?_ ?_
                          rotate_left
                          · intro w'
                            go_simp
                            with_reducible rfl
                          rotate_left
                          · simp only [Act.put, List.setIfInBounds_toArray, List.set_cons_zero, List.set_cons_succ, i64_w, i32_w]
                            rfl
                          refine norm_ ?_ (HJ.out (wr.drew.heap.size, A9, c9) _ ⟨hB3, blk_below hz hb9, hr9, Nat.le_refl _⟩)
                          simp only [putAll, Act.put, List.setIfInBounds_toArray, List.set_cons_zero, List.set_cons_succ]
                      case cont =>
                        rintro ⟨b14, A9, c9⟩ w5 ⟨hb, hz, hr, hge⟩
                        dsimp only at hz hr hge
                        clear hHeld
                        refine norm_ (a' := ?_) ?_ ?_
                        rotate_left
                        · simp only [putAll, Act.put, List.setIfInBounds_toArray, List.set_cons_zero, List.set_cons_succ]
                          rfl
                        refine last_ (i := 13) (N := none) #[true, true, true, true, true, true, true, true, true, true, true, true, true, true, false] rfl rfl (by kernel_rfl) (by decide) (fun K hK => ?_)
                        refine skip_ (by rfl) rfl (store_run (ty := 34) (x := .tmp 14) (v := .tmp 118) rfl rfl b14 34 #[.string ⟨#[]⟩, .string ⟨#[]⟩, .slice none 0 0] #[.string q.src, .string q.dst, .slice A9 q.arcs.length c9] (by rfl) (by rfl) hz (by kernel_rfl) rfl (by simp [Value.oneCell'])) ?_
                        have HB5 := Aside0.mk (below_step HB.out (row_step2 (cs := #[.string q.src, .string q.dst, .slice A9 q.arcs.length c9]) hb hge))
                        have HR5 := Aside0.mk (R_row hr hz (by decide) #[.string q.src, .string q.dst, .slice A9 q.arcs.length c9])
                        have HX5 := Aside0.mk (setRow_at w5 b14 #[.string q.src, .string q.dst, .slice A9 q.arcs.length c9] _ 34 hz)
                        refine hK.out _ _ ?_
                        clear hK K hb hz hr hge
                        generalize w5.setRow b14 #[.string q.src, .string q.dst, .slice A9 q.arcs.length c9] = W6 at HB5 HR5 HX5 ⊢
                        refine pure_ (i := 14) (N := some 15) (v := ?_) (a' := ?_) #[true, true, true, true, true, true, true, true, true, true, true, true, true, true, true] rfl rfl (by kernel_rfl) (fun _ _ _ h => h) (Or.inl ⟨by rfl, ?_⟩) ?_ ?_
                        rotate_left
                        · intro w'
                          go_simp
                          with_reducible rfl
                        rotate_left
                        · simp only [Act.put, List.setIfInBounds_toArray, List.set_cons_zero, List.set_cons_succ, i64_w, i32_w]
                          rfl
                        refine done_ (by kernel_rfl) ?_
                        obtain ⟨y0, y1, y2⟩ := Blk.cells (show Blk W6 b14 q A9 c9 from HX5.out)
                        have HHT := Aside0.mk (has_true (some ad) A9 c2 c9 P q W6 (Kd.C_below HC11.out HB5.out) (by have := HPL.out; omega) (Kd.R_reads' HR5.out).2.2 HIN.out)
                        go_wp2_with (go_at_call 30; refine HHT.out.mono ?_; rintro e w9 ⟨rfl, hb9⟩; have HB9 := Aside0.mk (below_step HB5.out hb9); clear hb9)
                        go_roundg (P.length - k - 1)
                        case measure => have := HK2.out; omega
                        case rel => exact ⟨k + 1, by go_num, ⟨by have := HK2.out; have := HLK.out; omega⟩, HB9⟩
                    · have hze : (z == 0) = false := by simpa using hz0
                      refine start_ (n := 15) (S := fun w' => Below wr.heap.size wr w') (ds := [13]) #[false, false, false, false, false, false, false, false, false, false, false, false, false, false, false] (by kernel_rfl) rfl rfl (below_drew1 (Below.refl _ _)) (fun hHeld => ?_)
                      refine pure_ (i := 0) (N := some 109) (v := ?_) (a' := ?_) #[true, false, false, false, false, false, false, false, false, false, false, false, false, false, false] rfl rfl (by kernel_rfl) (fun _ _ _ h => h) (Or.inl ⟨by rfl, ?_⟩) ?_ ?_
                      rotate_left
                      · intro w'
                        go_simp
                        with_reducible rfl
                      rotate_left
                      · simp only [Act.put, List.setIfInBounds_toArray, List.set_cons_zero, List.set_cons_succ, i64_w, i32_w]
                        rfl
                      refine pure_ (i := 1) (N := some 110) (v := ?_) (a' := ?_) #[true, true, false, false, false, false, false, false, false, false, false, false, false, false, false] rfl rfl (by kernel_rfl) (fun _ _ _ h => h) (Or.inl ⟨by rfl, ?_⟩) ?_ ?_
                      rotate_left
                      · intro w'
                        go_simp
                        with_reducible rfl
                      rotate_left
                      · simp only [Act.put, List.setIfInBounds_toArray, List.set_cons_zero, List.set_cons_succ, i64_w, i32_w]
                        rfl
                      refine pure_ (i := 2) (N := some 111) (v := ?_) (a' := ?_) #[true, true, true, false, false, false, false, false, false, false, false, false, false, false, false] rfl rfl (by kernel_rfl) (fun _ _ _ h => h) (Or.inl ⟨by rfl, ?_⟩) ?_ ?_
                      rotate_left
                      · intro w'
                        go_simp
                        with_reducible rfl
                      rotate_left
                      · simp only [Act.put, List.setIfInBounds_toArray, List.set_cons_zero, List.set_cons_succ, i64_w, i32_w]
                        rfl
                      refine take_ (i := 3) (N := some 112) (v := ?_) (a' := ?_) #[true, true, true, true, false, false, false, false, false, false, false, false, false, false, false] rfl rfl (by kernel_rfl) (fun _ _ _ h => h) (Or.inl ⟨by rfl, ?_⟩) hHeld ?_ ?_
                      rotate_left
                      · rintro w' s0
                        obtain ⟨q0, q1, q2⟩ := HQA.out w' s0
                        go_simp
                        with_reducible rfl
                      rotate_left
                      · simp only [Act.put, List.setIfInBounds_toArray, List.set_cons_zero, List.set_cons_succ, i64_w, i32_w]
                        rfl
                      refine pure_ (i := 4) (N := some 113) (v := ?_) (a' := ?_) #[true, true, true, true, true, false, false, false, false, false, false, false, false, false, false] rfl rfl (by kernel_rfl) (fun _ _ _ h => h) (Or.inl ⟨by rfl, ?_⟩) ?_ ?_
                      rotate_left
                      · intro w'
                        go_simp
                        with_reducible rfl
                      rotate_left
                      · simp only [Act.put, List.setIfInBounds_toArray, List.set_cons_zero, List.set_cons_succ, i64_w, i32_w]
                        rfl
                      refine pure_ (i := 5) (N := some 114) (v := ?_) (a' := ?_) #[true, true, true, true, true, true, false, false, false, false, false, false, false, false, false] rfl rfl (by kernel_rfl) (fun _ _ _ h => h) (Or.inl ⟨by rfl, ?_⟩) ?_ ?_
                      rotate_left
                      · intro w'
                        go_simp
                        with_reducible rfl
                      rotate_left
                      · simp only [Act.put, List.setIfInBounds_toArray, List.set_cons_zero, List.set_cons_succ, i64_w, i32_w]
                        rfl
                      refine pure_ (i := 6) (N := some 115) (v := ?_) (a' := ?_) #[true, true, true, true, true, true, true, false, false, false, false, false, false, false, false] rfl rfl (by kernel_rfl) (fun _ _ _ h => h) (Or.inl ⟨by rfl, ?_⟩) ?_ ?_
                      rotate_left
                      · intro w'
                        go_simp
                        with_reducible rfl
                      rotate_left
                      · simp only [Act.put, List.setIfInBounds_toArray, List.set_cons_zero, List.set_cons_succ, i64_w, i32_w]
                        rfl
                      refine take_ (i := 7) (N := some 116) (v := ?_) (a' := ?_) #[true, true, true, true, true, true, true, true, false, false, false, false, false, false, false] rfl rfl (by kernel_rfl) (fun _ _ _ h => h) (Or.inl ⟨by rfl, ?_⟩) hHeld ?_ ?_
                      rotate_left
                      · rintro w' s0
                        obtain ⟨q0, q1, q2⟩ := HQB.out w' s0
                        go_simp
                        with_reducible rfl
                      rotate_left
                      · simp only [Act.put, List.setIfInBounds_toArray, List.set_cons_zero, List.set_cons_succ, i64_w, i32_w]
                        rfl
                      refine join_ (σ := Nat × Option Addr × Nat) 2 #[true, true, true, true, true, true, true, true, true, true, true, true, true, false, false] (fun r => [(117, .tuple #[(.agg #[.string q.src, .string q.dst, .slice r.2.1 q.arcs.length r.2.2]), .int .i64 z]), (108, .tuple #[(.agg #[.string q.src, .string q.dst, .slice r.2.1 q.arcs.length r.2.2]), .int .i64 z]), (118, (.agg #[.string q.src, .string q.dst, .slice r.2.1 q.arcs.length r.2.2])), (119, .int .i64 z), (14, .pointer (some ⟨r.1, 0, none⟩))]) (fun r w' => Below wr.heap.size wr w' ∧ w'.heap[r.1]? = some (.cells #[.string ⟨#[]⟩, .string ⟨#[]⟩, .slice none 0 0] 34 (0, 0)) ∧ kAc.R 24 w' wr.heap.size (fun _ => True) (.slice r.2.1 q.arcs.length r.2.2) q.arcs ∧ wr.heap.size ≤ r.1) ?cont ?paths
                      case paths =>
                        intro HK
                        have HJ := Aside0.mk HK
                        clear HK
                        refine two_ (i := 8) (j := 12) (Ni := some 117) (Nj := some 14) #[true, true, true, true, true, true, true, true, true, false, false, false, false, false, false] #[true, true, true, true, true, true, true, true, false, false, false, false, true, false, false] rfl rfl rfl rfl (by kernel_rfl) (by decide) (by decide) (fun K hK => ?_) (fun K hK => ?_)
                        · refine goes_ Try.func18 (by kernel_rfl) rfl #[.agg #[.string x.src, .string x.dst, .slice X x.arcs.length xc], .agg #[.string y.src, .string y.dst, .slice Y y.arcs.length yc]] (by rfl) rfl rfl (by (try simp only [List.map_toArray, List.map_cons, List.map_nil]); first | done | rfl) ?_
                          refine (HCO.out _ hHeld).mono ?_
                          rintro e2 w3 ⟨A9, c9, rfl, hr9, hb9⟩
                          refine ⟨_, rfl, ?_⟩
                          have hB := below_step hHeld hb9
                          refine hK.out _ _ hB (fun _ => ?_)
                          clear hK
                          refine norm_ (a' := ?_) ?_ ?_
                          rotate_left
                          · show Act.put _ (some 117) _ = _
                            simp only [Act.put, List.setIfInBounds_toArray, List.set_cons_zero, List.set_cons_succ, i64_w, i32_w]
                            rfl
                          refine pure_ (i := 9) (N := some 108) (v := ?_) (a' := ?_) #[true, true, true, true, true, true, true, true, true, true, false, false, false, false, false] rfl rfl (by kernel_rfl) (fun _ _ _ h => h) (Or.inl ⟨by rfl, ?_⟩) ?_ ?_
                          rotate_left
                          · intro w'
                            go_simp
                            with_reducible rfl
                          rotate_left
                          · simp only [Act.put, List.setIfInBounds_toArray, List.set_cons_zero, List.set_cons_succ, i64_w, i32_w]
                            rfl
                          refine pure_ (i := 10) (N := some 118) (v := ?_) (a' := ?_) #[true, true, true, true, true, true, true, true, true, true, true, false, false, false, false] rfl rfl (by kernel_rfl) (fun _ _ _ h => h) (Or.inl ⟨by rfl, ?_⟩) ?_ ?_
                          rotate_left
                          · intro w'
                            go_simp
                            with_reducible rfl
                          rotate_left
                          · simp only [Act.put, List.setIfInBounds_toArray, List.set_cons_zero, List.set_cons_succ, i64_w, i32_w]
                            rfl
                          refine pure_ (i := 11) (N := some 119) (v := ?_) (a' := ?_) #[true, true, true, true, true, true, true, true, true, true, true, true, false, false, false] rfl rfl (by kernel_rfl) (fun _ _ _ h => h) (Or.inl ⟨by rfl, ?_⟩) ?_ ?_
                          rotate_left
                          · intro w'
                            go_simp
                            with_reducible rfl
                          rotate_left
                          · simp only [Act.put, List.setIfInBounds_toArray, List.set_cons_zero, List.set_cons_succ, i64_w, i32_w]
                            rfl
                          refine one_ (i := 12) (N := some 14) #[true, true, true, true, true, true, true, true, true, true, true, true, true, false, false] rfl rfl (by kernel_rfl) (by decide) (fun K hK => ?_)
                          refine value_ (by rfl) rfl (w1 := World.alloc w3 (.cells #[.string ⟨#[]⟩, .string ⟨#[]⟩, .slice none 0 0] 34)) (v := .pointer (some ⟨w3.heap.size, 0, none⟩)) (by go_simp) ?_
                          have hB2 := below_step hB (below_alloc (Below.refl _ _) (.cells #[.string ⟨#[]⟩, .string ⟨#[]⟩, .slice none 0 0] 34))
                          refine hK.out _ _ hB2 (fun _ => ?_)
                          clear hK
                          refine norm_ ?_ (HJ.out (w3.heap.size, A9, c9) _ ⟨hB2, blk_new w3 _, Kd.R_below hr9 (below_alloc (Below.refl _ _) _), hB.size⟩)
                          simp only [putAll, Act.put, List.setIfInBounds_toArray, List.set_cons_zero, List.set_cons_succ]
                        · refine value_ (by rfl) rfl (w1 := World.alloc wr.drew (.cells #[.string ⟨#[]⟩, .string ⟨#[]⟩, .slice none 0 0] 34)) (v := .pointer (some ⟨wr.drew.heap.size, 0, none⟩)) (by go_simp) ?_
                          have hB2 := below_step hHeld (below_alloc (Below.refl _ _) (.cells #[.string ⟨#[]⟩, .string ⟨#[]⟩, .slice none 0 0] 34))
                          have hz := blk_new wr.drew (.cells #[.string ⟨#[]⟩, .string ⟨#[]⟩, .slice none 0 0] 34)
                          refine hK.out _ _ hB2 (fun _ => ?_)
                          clear hK
                          refine norm_ (a' := ?_) ?_ ?_
                          rotate_left
                          · show Act.put _ (some 14) _ = _
                            simp only [Act.put, List.setIfInBounds_toArray, List.set_cons_zero, List.set_cons_succ, i64_w, i32_w]
                            rfl
                          refine one_ (i := 8) (N := some 117) #[true, true, true, true, true, true, true, true, true, false, false, false, true, false, false] rfl rfl (by kernel_rfl) (by decide) (fun K hK => ?_)
                          refine goes_ Try.func18 (by kernel_rfl) rfl #[.agg #[.string x.src, .string x.dst, .slice X x.arcs.length xc], .agg #[.string y.src, .string y.dst, .slice Y y.arcs.length yc]] (by rfl) rfl rfl (by (try simp only [List.map_toArray, List.map_cons, List.map_nil]); first | done | rfl) ?_
                          refine (HCO.out _ hB2).mono ?_
                          rintro e2 w3 ⟨A9, c9, rfl, hr9, hb9⟩
                          refine ⟨_, rfl, ?_⟩
                          have hB3 := below_step hB2 hb9
                          refine hK.out _ _ hB3 (fun _ => ?_)
                          clear hK
                          refine norm_ (a' := ?_) ?_ ?_
                          rotate_left
                          · show Act.put _ (some 117) _ = _
                            simp only [Act.put, List.setIfInBounds_toArray, List.set_cons_zero, List.set_cons_succ, i64_w, i32_w]
                            rfl
                          refine pure_ (i := 9) (N := some 108) (v := ?_) (a' := ?_) #[true, true, true, true, true, true, true, true, true, true, false, false, true, false, false] rfl rfl (by kernel_rfl) (fun _ _ _ h => h) (Or.inl ⟨by rfl, ?_⟩) ?_ ?_
                          rotate_left
                          · intro w'
                            go_simp
                            with_reducible rfl
                          rotate_left
                          · simp only [Act.put, List.setIfInBounds_toArray, List.set_cons_zero, List.set_cons_succ, i64_w, i32_w]
                            rfl
                          refine pure_ (i := 10) (N := some 118) (v := ?_) (a' := ?_) #[true, true, true, true, true, true, true, true, true, true, true, false, true, false, false] rfl rfl (by kernel_rfl) (fun _ _ _ h => h) (Or.inl ⟨by rfl, ?_⟩) ?_ ?_
                          rotate_left
                          · intro w'
                            go_simp
                            with_reducible rfl
                          rotate_left
                          · simp only [Act.put, List.setIfInBounds_toArray, List.set_cons_zero, List.set_cons_succ, i64_w, i32_w]
                            rfl
                          refine pure_ (i := 11) (N := some 119) (v := ?_) (a' := ?_) #[true, true, true, true, true, true, true, true, true, true, true, true, true, false, false] rfl rfl (by kernel_rfl) (fun _ _ _ h => h) (Or.inl ⟨by rfl, ?_⟩) ?_ ?_
                          rotate_left
                          · intro w'
                            go_simp
                            with_reducible rfl
                          rotate_left
                          · simp only [Act.put, List.setIfInBounds_toArray, List.set_cons_zero, List.set_cons_succ, i64_w, i32_w]
                            rfl
                          refine norm_ ?_ (HJ.out (wr.drew.heap.size, A9, c9) _ ⟨hB3, blk_below hz hb9, hr9, Nat.le_refl _⟩)
                          simp only [putAll, Act.put, List.setIfInBounds_toArray, List.set_cons_zero, List.set_cons_succ]
                      case cont =>
                        rintro ⟨b14, A9, c9⟩ w5 ⟨hb, hz, hr, hge⟩
                        dsimp only at hz hr hge
                        clear hHeld
                        refine norm_ (a' := ?_) ?_ ?_
                        rotate_left
                        · simp only [putAll, Act.put, List.setIfInBounds_toArray, List.set_cons_zero, List.set_cons_succ]
                          rfl
                        refine last_ (i := 13) (N := none) #[true, true, true, true, true, true, true, true, true, true, true, true, true, true, false] rfl rfl (by kernel_rfl) (by decide) (fun K hK => ?_)
                        refine skip_ (by rfl) rfl (store_run (ty := 34) (x := .tmp 14) (v := .tmp 118) rfl rfl b14 34 #[.string ⟨#[]⟩, .string ⟨#[]⟩, .slice none 0 0] #[.string q.src, .string q.dst, .slice A9 q.arcs.length c9] (by rfl) (by rfl) hz (by kernel_rfl) rfl (by simp [Value.oneCell'])) ?_
                        have HB5 := Aside0.mk (below_step HB.out (row_step2 (cs := #[.string q.src, .string q.dst, .slice A9 q.arcs.length c9]) hb hge))
                        have HR5 := Aside0.mk (R_row hr hz (by decide) #[.string q.src, .string q.dst, .slice A9 q.arcs.length c9])
                        have HX5 := Aside0.mk (setRow_at w5 b14 #[.string q.src, .string q.dst, .slice A9 q.arcs.length c9] _ 34 hz)
                        refine hK.out _ _ ?_
                        clear hK K hb hz hr hge
                        generalize w5.setRow b14 #[.string q.src, .string q.dst, .slice A9 q.arcs.length c9] = W6 at HB5 HR5 HX5 ⊢
                        refine pure_ (i := 14) (N := some 15) (v := ?_) (a' := ?_) #[true, true, true, true, true, true, true, true, true, true, true, true, true, true, true] rfl rfl (by kernel_rfl) (fun _ _ _ h => h) (Or.inl ⟨by rfl, ?_⟩) ?_ ?_
                        rotate_left
                        · intro w'
                          go_simp
                          with_reducible rfl
                        rotate_left
                        · simp only [Act.put, List.setIfInBounds_toArray, List.set_cons_zero, List.set_cons_succ, i64_w, i32_w]
                          rfl
                        refine done_ (by kernel_rfl) ?_
                        obtain ⟨y0, y1, y2⟩ := Blk.cells (show Blk W6 b14 q A9 c9 from HX5.out)
                        have HB9 := HB5
                        go_wp2
                        go_roundg (P.length - k - 1)
                        case measure => have := HK2.out; omega
                        case rel => exact ⟨k + 1, by go_num, ⟨by have := HK2.out; have := HLK.out; omega⟩, HB9⟩
                  · have hdx : decide ((k : Int) < (P.length : Int)) = false := decide_eq_false (by omega)
                    go_wp2
                    go_roundg (P.length - i - 1)
                    case measure => have := HK.out; have := HLI.out; omega
                    case rel => exact ⟨i + 1, by go_num, ⟨by have := HK.out; have := HLI.out; omega⟩, HB⟩
              · have hdx : decide ((i : Int) < (P.length : Int)) = false := decide_eq_false (by omega)
                have HB9 := Aside0.mk (below_step HB8.out HB.out)
                go_wp2_with (go_at_call 12; refine (awake_calls _).mono ?_; rintro e wz ⟨rfl, hbz⟩; have HBZ := Aside0.mk (below_step HB9.out hbz); clear hbz)
                go_ret
                exact ⟨rfl, HBZ.out⟩
end
end Go.Proofs.Ytiepinfcndefhaa.S
