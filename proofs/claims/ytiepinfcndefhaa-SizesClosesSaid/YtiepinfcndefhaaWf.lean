/- The program's Closure, its sort, and the law SizesCloses: the walks. No condition. -/
import Derived.Test.YtiepinfcndefhaaVu
import Derived.Sort.Statements
import Derived.Sort.Grow
import Derived.Maps.Own
import Derived.Shelf.SlSortCmp.WholeK
namespace Go.Proofs.Ytiepinfcndefhaa.S
open Go.RowKit Go.Proofs.YtiepinfcndefhaaW.PrintWords Go.Proofs.YtiepinfcndefhaaW.PrintLast Go.Proofs.YtiepinfcndefhaaW.PrintMore
set_option linter.unusedVariables false
set_option linter.unusedSimpArgs false

section

/-- Nothing old has changed; draws do not go back. -/
def Grew (W W2 : World) : Prop := Below W.heap.size W W2 ∧ W.drawn ≤ W2.drawn
theorem Grew.refl (W : World) : Grew W W := ⟨Below.refl _ _, Nat.le_refl _⟩
theorem Grew.trans {a b c : World} (h : Grew a b) (k : Grew b c) : Grew a c := ⟨below_step h.1 k.1, Nat.le_trans h.2 k.2⟩
theorem Grew.alloc (W : World) (o : Obj) : Grew W (W.alloc o) := ⟨below_alloc (Below.refl _ _) o, Nat.le_refl _⟩
theorem Grew.drew (W : World) : Grew W W.drew := ⟨below_drew1 (Below.refl _ _), Nat.le_succ _⟩
theorem Grew.exact {W W2 : World} (h : Grew W W2) : ∃ q os, W2 = Go.Sort.grow (W.drewN q) os := by
  obtain ⟨⟨h1, h2, h3, h4, h5⟩, h6⟩ := h
  refine ⟨W2.drawn - W.drawn, W2.heap.extract W.heap.size W2.heap.size, ?_⟩
  have hh : W2.heap = W.heap ++ W2.heap.extract W.heap.size W2.heap.size := by
    refine Array.ext_getElem? fun i => ?_
    rw [Array.getElem?_append]
    split
    · rename_i hi
      exact h5 i hi
    · rename_i hi
      rw [Array.getElem?_extract]
      by_cases hlt : i < W2.heap.size
      · rw [if_pos (by omega), show W.heap.size + (i - W.heap.size) = i by omega]
      · rw [if_neg (by omega)]
        exact Array.getElem?_eq_none (by omega)
  have hd : W.drawn + (W2.drawn - W.drawn) = W2.drawn := by omega
  obtain ⟨heap, tape, drawn, os, output⟩ := W
  obtain ⟨heap2, tape2, drawn2, os2, output2⟩ := W2
  dsimp only at h1 h2 h3 hh hd
  subst h1
  subst h2
  subst h3
  simp only [Go.Sort.grow, World.drewN, World.mk.injEq, true_and, and_true]
  exact ⟨hh, hd.symm⟩
def cmpS (a b : ByteArray) : Int := if Op.bytesLess a.toList b.toList = true then -1 else if Op.bytesLess b.toList a.toList = true then 1 else 0
def cmpI (a b : Int) : Int := if a < b then -1 else if b < a then 1 else 0
def orI : List Int → Int
  | [] => 0
  | x :: l => if x = 0 then orI l else x
def b2i (b : Bool) : Int := if b = true then 1 else 0
def cmpA (x y : Ac) : Int := orI [cmpI x.a y.a, cmpI x.b y.b, cmpI (b2i x.s) (b2i y.s)]
def cmpAs : List Ac → List Ac → Int
  | [], [] => 0
  | [], _ :: _ => -1
  | _ :: _, [] => 1
  | x :: a, y :: b => if cmpA x y = 0 then cmpAs a b else cmpA x y
def cmpC (a b : Cl) : Int := orI [cmpS a.src b.src, cmpS a.dst b.dst, cmpAs a.arcs b.arcs]
/-- The sign of a comparison, by what is less. -/
def sgn (p q : Bool) : Int := if p = true then -1 else if q = true then 1 else 0
theorem cmpA_sgn (x y : Ac) : cmpA x y = sgn (beforeA x y) (beforeA y x) := by
  obtain ⟨a, b, s⟩ := x
  obtain ⟨c, d, t⟩ := y
  unfold cmpA sgn beforeA cmpI
  rcases Int.lt_trichotomy a c with h | h | h
  · simp [orI, h, Int.ne_of_lt h]
  · subst h
    rcases Int.lt_trichotomy b d with h | h | h
    · simp [orI, h, Int.ne_of_lt h]
    · subst h
      cases s <;> cases t <;> simp [orI, b2i]
    · simp [orI, h, Int.ne_of_gt h, Int.lt_asymm h, (Int.ne_of_gt h).symm]
  · simp [orI, h, Int.ne_of_gt h, Int.lt_asymm h, (Int.ne_of_gt h).symm]
theorem sgn_zero {p q : Bool} : sgn p q = 0 ↔ p = false ∧ q = false := by
  cases p <;> cases q <;> simp [sgn]
theorem cmpA_zero {x y : Ac} : cmpA x y = 0 ↔ x = y := by
  rw [cmpA_sgn, sgn_zero]
  exact ⟨fun h => ba_tri h.1 h.2, fun h => by subst h; exact ⟨ba_irr _, ba_irr _⟩⟩
theorem cmpAs_sgn : ∀ (a b : List Ac), cmpAs a b = sgn (lessAs a b) (lessAs b a)
  | [], [] => rfl
  | [], _ :: _ => rfl
  | _ :: _, [] => rfl
  | x :: a, y :: b => by
    simp only [cmpAs, lessAs]
    by_cases e : x = y
    · rw [if_pos (cmpA_zero.2 e), if_pos e, if_pos e.symm]
      exact cmpAs_sgn a b
    · rw [if_neg (fun h => e (cmpA_zero.1 h)), if_neg e, if_neg (fun h => e h.symm)]
      exact cmpA_sgn x y
theorem cmpS_sgn (a b : ByteArray) : cmpS a b = sgn (Op.bytesLess a.toList b.toList) (Op.bytesLess b.toList a.toList) := rfl
theorem cmpS_zero {a b : ByteArray} : cmpS a b = 0 ↔ a = b := by
  rw [cmpS_sgn, sgn_zero]
  exact ⟨fun h => bytes_inj (bl_tri h.1 h.2), fun h => by subst h; exact ⟨bl_irr _, bl_irr _⟩⟩
theorem cmpC_sgn (a b : Cl) : cmpC a b = sgn (lssC a b) (lssC b a) := by
  unfold cmpC lssC
  simp only [orI]
  by_cases e : a.src = b.src
  · rw [if_pos (cmpS_zero.2 e), if_pos e, if_pos e.symm]
    by_cases e2 : a.dst = b.dst
    · rw [if_pos (cmpS_zero.2 e2), if_pos e2, if_pos e2.symm, cmpAs_sgn]
      split
      · rename_i h; exact h.symm
      · rfl
    · rw [if_neg (fun h => e2 (cmpS_zero.1 h)), if_neg e2, if_neg (fun h => e2 h.symm), cmpS_sgn]
  · rw [if_neg (fun h => e (cmpS_zero.1 h)), if_neg e, if_neg (fun h => e h.symm), cmpS_sgn]
theorem cmpC_lt (a b : Cl) : decide (cmpC a b < 0) = lssC a b := by
  rw [cmpC_sgn, sgn]
  cases lssC a b <;> cases lssC b a <;> rfl
theorem nanS_calls (s : ByteArray) (w : World) : Calls Try.prog 74 #[.string s] w fun e w' => e = .returned (.bool false) ∧ w' = w := by
  have e2 : (s.toList == s.toList) = true := beq_self_eq_true _
  have e1 : (s == s) = true := (beq_toListBytes _ _).trans e2
  have n1 : (s != s) = false := by rw [bne, e1]; rfl
  go_enter Try.func74, Try.ntmps74
  go_wp2
  go_ret
  exact ⟨rfl, rfl⟩
theorem nanI_calls (s : Int) (w : World) : Calls Try.prog 103 #[.int .i64 s] w fun e w' => e = .returned (.bool false) ∧ w' = w := by
  have n1 : (s != s) = false := by simp
  go_enter Try.func103, Try.ntmps103
  go_wp2
  go_ret
  exact ⟨rfl, rfl⟩
theorem gtr_str (a b : ByteArray) (w : World) (h : Op.bytesLess a.toList b.toList = false) : (binOp .gtr 9 (.string a) (.string b)).run Try.prog w = .ok (.bool (Op.bytesLess b.toList a.toList)) w := by
  have e : Op.bytesLess b.toList a.toList = !(Op.bytesLess a.toList b.toList || a.toList == b.toList) := by
    rw [h, Bool.false_or]
    cases h2 : Op.bytesLess b.toList a.toList with
    | false =>
      rw [bl_tri h h2]
      simp
    | true =>
      have : a.toList ≠ b.toList := fun e => by rw [e, bl_irr] at h2; cases h2
      simp [this]
  rw [e]
  simp only [binOp, Op.stringOp, Sem.run_pure]
theorem cmpS_calls (a b : ByteArray) (w : World) : Calls Try.prog 53 #[.string a, .string b] w fun e w' => e = .returned (.int .i64 (cmpS a b)) ∧ Grew w w' := by
  unfold cmpS
  have hgt0 := fun w => gtr_str a b w
  generalize h1 : Op.bytesLess a.toList b.toList = p
  generalize h2 : Op.bytesLess b.toList a.toList = q at hgt0 ⊢
  cases p with
  | true =>
    go_enter Try.func53, Try.ntmps53
    go_wp2_with (go_at_call 74; refine (nanS_calls _ _).mono ?_; rintro e w1 ⟨rfl, rfl⟩)
    go_ret
    exact ⟨rfl, Grew.refl _⟩
  | false =>
    have hgt := fun w => hgt0 w h1
    clear hgt0
    cases q with
    | true =>
      go_enter Try.func53, Try.ntmps53
      go_wp2_with (go_at_call 74; refine (nanS_calls _ _).mono ?_; rintro e w1 ⟨rfl, rfl⟩)
      go_ret
      exact ⟨rfl, Grew.refl _⟩
    | false =>
      go_enter Try.func53, Try.ntmps53
      go_wp2_with (go_at_call 74; refine (nanS_calls _ _).mono ?_; rintro e w1 ⟨rfl, rfl⟩)
      go_ret
      exact ⟨rfl, Grew.refl _⟩
theorem cmpI_calls (a b : Int) (w : World) : Calls Try.prog 75 #[.int .i64 a, .int .i64 b] w fun e w' => e = .returned (.int .i64 (cmpI a b)) ∧ Grew w w' := by
  unfold cmpI
  by_cases h1 : a < b
  · have d1 : decide (a < b) = true := decide_eq_true h1
    rw [if_pos h1]
    go_enter Try.func75, Try.ntmps75
    go_wp2_with (go_at_call 103; refine (nanI_calls _ _).mono ?_; rintro e w1 ⟨rfl, rfl⟩)
    go_ret
    exact ⟨rfl, Grew.refl _⟩
  · have d1 : decide (a < b) = false := decide_eq_false h1
    rw [if_neg h1]
    by_cases h2 : b < a
    · have d2 : decide (b < a) = true := decide_eq_true h2
      rw [if_pos h2]
      go_enter Try.func75, Try.ntmps75
      go_wp2_with (go_at_call 103; refine (nanI_calls _ _).mono ?_; rintro e w1 ⟨rfl, rfl⟩)
      go_ret
      exact ⟨rfl, Grew.refl _⟩
    · have d2 : decide (b < a) = false := decide_eq_false h2
      rw [if_neg h2]
      go_enter Try.func75, Try.ntmps75
      go_wp2_with (go_at_call 103; refine (nanI_calls _ _).mono ?_; rintro e w1 ⟨rfl, rfl⟩)
      go_ret
      exact ⟨rfl, Grew.refl _⟩
theorem or_step {l : List Int} {i : Nat} (hi : i < l.length) : orI (l.drop i) = if l[i] = 0 then orI (l.drop (i + 1)) else l[i] := by
  rw [List.drop_eq_getElem_cons hi]
  rfl
set_option maxHeartbeats 1000000 in
theorem or_calls (A : Option Addr) (cp : Nat) (l : List Int) (w : World) (h : (Kd.int .i64).C w A l.length l) (hl : l.length ≤ 1000) : Calls Try.prog 52 #[.slice A l.length cp] w fun e w' => e = .returned (.int .i64 (orI l)) ∧ Grew w w' := by
  have HC := Aside0.mk h
  have HL := Aside0.mk hl
  clear h hl
  go_enter Try.func52, Try.ntmps52
  go_wp2
  go_loopg [8] l.length (fun kq v8 w' => ∃ (i : Nat), v8 = .int .i64 (i : Int) ∧ Aside0 (kq + i = l.length) ∧ Aside0 (orI l = orI (l.drop i)) ∧ Aside0 (Grew w w'))
  case atStart => exact ⟨0, rfl, ⟨rfl⟩, ⟨rfl⟩, ⟨Grew.refl _⟩⟩
  case round =>
    obtain ⟨i, rfl, HK, HI, HB⟩ := hrel
    by_cases hlt : i < l.length
    · have hdx : decide ((i : Int) < (l.length : Int)) = true := decide_eq_true (by omega)
      have hi0 : (i : Int) < (l.length : Int) := by omega
      have hib : wrap64 ((i : Int) + 1) = (i : Int) + 1 := by have := HL.out; unfold wrap64; omega
      have HLT := Aside0.mk hlt
      obtain ⟨ad, ea, q0⟩ := Kd.at_int (Kd.C_below HC.out HB.out.1) (i : Int) (by omega) (by omega)
      rw [Int.toNat_natCast] at q0
      have hrd : rd l (i : Int) = l[i] := by simp [rd, List.getD_eq_getElem?_getD, List.getElem?_eq_getElem hlt]
      rw [hrd] at q0
      have HI2 := Aside0.mk (HI.out.trans (or_step hlt))
      generalize l[i] = x at q0 HI2
      subst ea
      by_cases hx : x = 0
      · have n1 : (x != 0) = false := by simp [hx]
        have HI3 := Aside0.mk (HI2.out.trans (if_pos hx))
        clear hx hrd
        go_wp2
        go_roundg (l.length - i - 1)
        case measure => have := HK.out; omega
        case rel => exact ⟨i + 1, by go_num, ⟨by have := HK.out; have := HLT.out; omega⟩, HI3, HB⟩
      · have n1 : (x != 0) = true := by simpa using hx
        have HI3 := Aside0.mk (HI2.out.trans (if_neg hx))
        clear hx hrd
        go_wp2
        go_ret
        exact ⟨by rw [HI3.out]; rfl, HB.out⟩
    · have hdx : decide ((i : Int) < (l.length : Int)) = false := decide_eq_false (by omega)
      have HE := Aside0.mk (HI.out.trans (show orI (l.drop i) = 0 by rw [List.drop_eq_nil_of_le (by omega)]; rfl))
      go_wp2
      go_ret
      exact ⟨by rw [HE.out]; rfl, HB.out⟩
end
section
open Go.Maps

theorem ints_blk {w : World} {rb : Nat} {l : List Int} (h : w.heap[rb]? = some (.cells (l.map (Value.int .i64)).toArray 3 (0, 0))) (hl : l.length ≤ 9223372036854775807) : (Kd.int .i64).C w (some ⟨rb, 0, none⟩) l.length l := by
  refine ⟨rfl, hl, fun _ => ⟨⟨rb, 0, none⟩, rfl, fun j p hj => ⟨[.int .i64 p], rfl, rfl, fun i u hu => ?_⟩⟩⟩
  cases i with
  | zero =>
    have e : u = .int .i64 p := (Option.some.inj hu).symm
    subst e
    have h1 := blk_at h (k := j) (v := .int .i64 p) (by simp [hj])
    show w.cell? ((⟨rb, 0, none⟩ : Addr).add (j * 1 + 0)) = _
    rw [show (⟨rb, 0, none⟩ : Addr).add (j * 1 + 0) = ⟨rb, j, none⟩ by simp [Addr.add]; omega]
    exact h1
  | succ i => simp at hu
/-- The map from bool to int. -/
def DB : DataW Unit := (DataW.map []).put (.bool true) (.lit (.int .i64 1))
set_option maxRecDepth 100000 in
theorem bmap_made (W : World) : ∃ W2, (Instr.mapUpdate 132 (.map (some W.heap.size)) (.bool true) (.int .i64 1)).run Try.prog (W.alloc (.map #[] 0)) = .ok () W2 ∧ W2.ownsMap Try.prog 4 (plainElem Try.prog 3) W.heap.size 1 DB ∧ Grew W W2 := by
  have h0 := World.ownsMap_made (H := Unit) W Try.prog 4 (plainElem Try.prog 3)
  obtain ⟨W2, h1, h2, h3⟩ := h0.update (bool_keyed Try.underlying4) Try.underlying132 (by unfold maxLen; omega) (keyOf_bool_mk Try.underlying4 true) (plainElem_int (H := Unit) Try.underlying3 (a := 1) (by decide))
  refine ⟨W2, h1, h2, ⟨h3.os, h3.tape, h3.output, Nat.le_trans (by simp) h3.size, fun k hk => ?_⟩, ?_⟩
  · rw [h3.block k (by simp; omega) (fun e => by have := Option.some.inj e; omega)]
    exact Below.heap_alloc W _ k hk
  · obtain ⟨es, clock, hb, hf, hs, hD⟩ := h0
    obtain ⟨es', clock', hrun, _⟩ := Maps.fit_store (R' := plainElem Try.prog 3) (bool_keyed Try.underlying4) Try.underlying132 hb hf (Nat.lt_of_le_of_lt hs (by unfold maxLen; omega)) (fun _ _ _ _ hz => hz) (keyOf_bool_mk Try.underlying4 true) (plainElem_int (H := Unit) Try.underlying3 (a := 1) (by decide))
    rw [hrun] at h1
    have e := (Result.ok.inj h1).2
    rw [← e]
    exact Nat.le_refl _
set_option maxRecDepth 100000 in
theorem bmap_look {W : World} {mb : Nat} (h : W.ownsMap Try.prog 4 (plainElem Try.prog 3) mb 1 DB) (x : Bool) : (Instr.lookup 132 (.map (some mb)) (.bool x) false).run Try.prog W = .ok (.int .i64 (b2i x)) W := by
  have hz : (zeroValue 3).run Try.prog W = .ok (.int .i64 0) W := by kernel_rfl
  obtain ⟨c, h1, h2, _⟩ := h.lookup_int (bool_keyed Try.underlying4) Try.underlying132 Try.underlying3 hz (keyOf_bool_mk Try.underlying4 x)
  rw [h1]
  have e : c = b2i x := by
    cases x with
    | true =>
      have h3 : DB.atKey (.bool true) (.lit (.int .i64 0)) = .lit (.int .i64 1) := by rfl
      rw [h3] at h2
      injection h2 with h2
      injection h2 with _ h2
      exact h2.symm
    | false =>
      have h3 : DB.atKey (.bool false) (.lit (.int .i64 0)) = .lit (.int .i64 0) := by rfl
      rw [h3] at h2
      injection h2 with h2
      injection h2 with _ h2
      exact h2.symm
  rw [e]
set_option maxHeartbeats 4000000 in
set_option maxRecDepth 100000 in
theorem cmpA_calls (x y : Ac) (w : World) : Calls Try.prog 55 #[.agg #[.int .i64 x.a, .int .i64 x.b, .bool x.s], .agg #[.int .i64 y.a, .int .i64 y.b, .bool y.s]] w fun e w' => e = .returned (.int .i64 (cmpA x y)) ∧ Grew w w' := by
  obtain ⟨xa, xb, xs⟩ := x
  obtain ⟨ya, yb, ys⟩ := y
  have hmm := @run_makeMap Try.prog
  have hsz : ((w.alloc (.cells #[.int .i64 xa, .int .i64 xb, .bool xs] 24)).alloc (.cells #[.int .i64 ya, .int .i64 yb, .bool ys] 24)).heap.size = w.heap.size + 1 + 1 := by simp
  obtain ⟨W0, hup, hown, hgr⟩ := bmap_made ((w.alloc (.cells #[.int .i64 xa, .int .i64 xb, .bool xs] 24)).alloc (.cells #[.int .i64 ya, .int .i64 yb, .bool ys] 24))
  have hg0 : Grew w ((w.alloc (.cells #[.int .i64 xa, .int .i64 xb, .bool xs] 24)).alloc (.cells #[.int .i64 ya, .int .i64 yb, .bool ys] 24)) := (Grew.alloc _ _).trans (Grew.alloc _ _)
  have HG0 := Aside0.mk (hg0.trans hgr)
  have hA : ((w.alloc (.cells #[.int .i64 xa, .int .i64 xb, .bool xs] 24)).alloc (.cells #[.int .i64 ya, .int .i64 yb, .bool ys] 24)).heap[w.heap.size]? = some (.cells #[.int .i64 xa, .int .i64 xb, .bool xs] 24 (0, 0)) := blk_below (blk_new w (.cells #[.int .i64 xa, .int .i64 xb, .bool xs] 24)) (below_alloc (Below.refl _ _) _)
  have hB : ((w.alloc (.cells #[.int .i64 xa, .int .i64 xb, .bool xs] 24)).alloc (.cells #[.int .i64 ya, .int .i64 yb, .bool ys] 24)).heap[w.heap.size + 1]? = some (.cells #[.int .i64 ya, .int .i64 yb, .bool ys] 24 (0, 0)) := by
    have h1 := blk_new (w.alloc (.cells #[.int .i64 xa, .int .i64 xb, .bool xs] 24)) (.cells #[.int .i64 ya, .int .i64 yb, .bool ys] 24)
    rw [World.size_alloc] at h1
    exact h1
  have hA2 := blk_below hA hgr.1
  have hB2 := blk_below hB hgr.1
  have HXA := Aside0.mk (fun (W : World) (h : Below W0.heap.size W0 W) => show W.cell? ⟨w.heap.size, 0, none⟩ = some (.int .i64 xa) ∧ W.cell? ⟨w.heap.size, 1, none⟩ = some (.int .i64 xb) ∧ W.cell? ⟨w.heap.size, 2, none⟩ = some (.bool xs) from ⟨blk_at (blk_below hA2 h) (k := 0) rfl, blk_at (blk_below hA2 h) (k := 1) rfl, blk_at (blk_below hA2 h) (k := 2) rfl⟩)
  have HXB := Aside0.mk (fun (W : World) (h : Below W0.heap.size W0 W) => show W.cell? ⟨w.heap.size + 1, 0, none⟩ = some (.int .i64 ya) ∧ W.cell? ⟨w.heap.size + 1, 1, none⟩ = some (.int .i64 yb) ∧ W.cell? ⟨w.heap.size + 1, 2, none⟩ = some (.bool ys) from ⟨blk_at (blk_below hB2 h) (k := 0) rfl, blk_at (blk_below hB2 h) (k := 1) rfl, blk_at (blk_below hB2 h) (k := 2) rfl⟩)
  rw [hsz] at hup hown
  have HLK := Aside0.mk (fun (W : World) (h : Below W0.heap.size W0 W) (x : Bool) => bmap_look (hown.kept (grown_of_below h none) (by simp)) x)
  clear hA hB hA2 hB2 hown hgr hg0 hsz
  go_enter Try.func55, Try.ntmps55
  go_wp2
  clear hup hmm
  refine start_ (n := 22) (S := fun w' => Grew W0 w') (ds := []) #[false, false, false, false, false, false, false, false, false, false, false, false, false, false, false, false, false, false, false, false, false, false] (by kernel_rfl) rfl rfl (Grew.drew _) (fun hHeld => ?_)
  refine pure_ (i := 0) (N := some 8) (v := ?_) (a' := ?_) #[true, false, false, false, false, false, false, false, false, false, false, false, false, false, false, false, false, false, false, false, false, false] rfl rfl (by kernel_rfl) (fun _ _ _ h => h) (Or.inl ⟨by rfl, ?_⟩) ?_ ?_
  rotate_left
  · intro w'
    go_simp
    with_reducible rfl
  rotate_left
  · simp only [Act.put, List.setIfInBounds_toArray, List.set_cons_zero, List.set_cons_succ, i64_w, i32_w]
    rfl
  refine take_ (i := 1) (N := some 9) (v := ?_) (a' := ?_) #[true, true, false, false, false, false, false, false, false, false, false, false, false, false, false, false, false, false, false, false, false, false] rfl rfl (by kernel_rfl) (fun _ _ _ h => h) (Or.inl ⟨by rfl, ?_⟩) hHeld ?_ ?_
  rotate_left
  · rintro w' s0
    obtain ⟨y0, y1, y2⟩ := HXA.out w' s0.1
    go_simp
    with_reducible rfl
  rotate_left
  · simp only [Act.put, List.setIfInBounds_toArray, List.set_cons_zero, List.set_cons_succ, i64_w, i32_w]
    rfl
  refine pure_ (i := 2) (N := some 10) (v := ?_) (a' := ?_) #[true, true, true, false, false, false, false, false, false, false, false, false, false, false, false, false, false, false, false, false, false, false] rfl rfl (by kernel_rfl) (fun _ _ _ h => h) (Or.inl ⟨by rfl, ?_⟩) ?_ ?_
  rotate_left
  · intro w'
    go_simp
    with_reducible rfl
  rotate_left
  · simp only [Act.put, List.setIfInBounds_toArray, List.set_cons_zero, List.set_cons_succ, i64_w, i32_w]
    rfl
  refine take_ (i := 3) (N := some 11) (v := ?_) (a' := ?_) #[true, true, true, true, false, false, false, false, false, false, false, false, false, false, false, false, false, false, false, false, false, false] rfl rfl (by kernel_rfl) (fun _ _ _ h => h) (Or.inl ⟨by rfl, ?_⟩) hHeld ?_ ?_
  rotate_left
  · rintro w' s0
    obtain ⟨z0, z1, z2⟩ := HXB.out w' s0.1
    go_simp
    with_reducible rfl
  rotate_left
  · simp only [Act.put, List.setIfInBounds_toArray, List.set_cons_zero, List.set_cons_succ, i64_w, i32_w]
    rfl
  refine pure_ (i := 5) (N := some 13) (v := ?_) (a' := ?_) #[true, true, true, true, false, true, false, false, false, false, false, false, false, false, false, false, false, false, false, false, false, false] rfl rfl (by kernel_rfl) (fun _ _ _ h => h) (Or.inl ⟨by rfl, ?_⟩) ?_ ?_
  rotate_left
  · intro w'
    go_simp
    with_reducible rfl
  rotate_left
  · simp only [Act.put, List.setIfInBounds_toArray, List.set_cons_zero, List.set_cons_succ, i64_w, i32_w]
    rfl
  refine take_ (i := 6) (N := some 14) (v := ?_) (a' := ?_) #[true, true, true, true, false, true, true, false, false, false, false, false, false, false, false, false, false, false, false, false, false, false] rfl rfl (by kernel_rfl) (fun _ _ _ h => h) (Or.inl ⟨by rfl, ?_⟩) hHeld ?_ ?_
  rotate_left
  · rintro w' s0
    obtain ⟨y0, y1, y2⟩ := HXA.out w' s0.1
    go_simp
    with_reducible rfl
  rotate_left
  · simp only [Act.put, List.setIfInBounds_toArray, List.set_cons_zero, List.set_cons_succ, i64_w, i32_w]
    rfl
  refine pure_ (i := 7) (N := some 15) (v := ?_) (a' := ?_) #[true, true, true, true, false, true, true, true, false, false, false, false, false, false, false, false, false, false, false, false, false, false] rfl rfl (by kernel_rfl) (fun _ _ _ h => h) (Or.inl ⟨by rfl, ?_⟩) ?_ ?_
  rotate_left
  · intro w'
    go_simp
    with_reducible rfl
  rotate_left
  · simp only [Act.put, List.setIfInBounds_toArray, List.set_cons_zero, List.set_cons_succ, i64_w, i32_w]
    rfl
  refine take_ (i := 8) (N := some 16) (v := ?_) (a' := ?_) #[true, true, true, true, false, true, true, true, true, false, false, false, false, false, false, false, false, false, false, false, false, false] rfl rfl (by kernel_rfl) (fun _ _ _ h => h) (Or.inl ⟨by rfl, ?_⟩) hHeld ?_ ?_
  rotate_left
  · rintro w' s0
    obtain ⟨z0, z1, z2⟩ := HXB.out w' s0.1
    go_simp
    with_reducible rfl
  rotate_left
  · simp only [Act.put, List.setIfInBounds_toArray, List.set_cons_zero, List.set_cons_succ, i64_w, i32_w]
    rfl
  refine pure_ (i := 10) (N := some 18) (v := ?_) (a' := ?_) #[true, true, true, true, false, true, true, true, true, false, true, false, false, false, false, false, false, false, false, false, false, false] rfl rfl (by kernel_rfl) (fun _ _ _ h => h) (Or.inl ⟨by rfl, ?_⟩) ?_ ?_
  rotate_left
  · intro w'
    go_simp
    with_reducible rfl
  rotate_left
  · simp only [Act.put, List.setIfInBounds_toArray, List.set_cons_zero, List.set_cons_succ, i64_w, i32_w]
    rfl
  refine pure_ (i := 11) (N := some 19) (v := ?_) (a' := ?_) #[true, true, true, true, false, true, true, true, true, false, true, true, false, false, false, false, false, false, false, false, false, false] rfl rfl (by kernel_rfl) (fun _ _ _ h => h) (Or.inl ⟨by rfl, ?_⟩) ?_ ?_
  rotate_left
  · intro w'
    go_simp
    with_reducible rfl
  rotate_left
  · simp only [Act.put, List.setIfInBounds_toArray, List.set_cons_zero, List.set_cons_succ, i64_w, i32_w]
    rfl
  refine take_ (i := 12) (N := some 20) (v := ?_) (a' := ?_) #[true, true, true, true, false, true, true, true, true, false, true, true, true, false, false, false, false, false, false, false, false, false] rfl rfl (by kernel_rfl) (fun _ _ _ h => h) (Or.inl ⟨by rfl, ?_⟩) hHeld ?_ ?_
  rotate_left
  · rintro w' s0
    obtain ⟨y0, y1, y2⟩ := HXA.out w' s0.1
    go_simp
    with_reducible rfl
  rotate_left
  · simp only [Act.put, List.setIfInBounds_toArray, List.set_cons_zero, List.set_cons_succ, i64_w, i32_w]
    rfl
  refine pure_ (i := 14) (N := some 22) (v := ?_) (a' := ?_) #[true, true, true, true, false, true, true, true, true, false, true, true, true, false, true, false, false, false, false, false, false, false] rfl rfl (by kernel_rfl) (fun _ _ _ h => h) (Or.inl ⟨by rfl, ?_⟩) ?_ ?_
  rotate_left
  · intro w'
    go_simp
    with_reducible rfl
  rotate_left
  · simp only [Act.put, List.setIfInBounds_toArray, List.set_cons_zero, List.set_cons_succ, i64_w, i32_w]
    rfl
  refine pure_ (i := 15) (N := some 23) (v := ?_) (a' := ?_) #[true, true, true, true, false, true, true, true, true, false, true, true, true, false, true, true, false, false, false, false, false, false] rfl rfl (by kernel_rfl) (fun _ _ _ h => h) (Or.inl ⟨by rfl, ?_⟩) ?_ ?_
  rotate_left
  · intro w'
    go_simp
    with_reducible rfl
  rotate_left
  · simp only [Act.put, List.setIfInBounds_toArray, List.set_cons_zero, List.set_cons_succ, i64_w, i32_w]
    rfl
  refine take_ (i := 16) (N := some 24) (v := ?_) (a' := ?_) #[true, true, true, true, false, true, true, true, true, false, true, true, true, false, true, true, true, false, false, false, false, false] rfl rfl (by kernel_rfl) (fun _ _ _ h => h) (Or.inl ⟨by rfl, ?_⟩) hHeld ?_ ?_
  rotate_left
  · rintro w' s0
    obtain ⟨z0, z1, z2⟩ := HXB.out w' s0.1
    go_simp
    with_reducible rfl
  rotate_left
  · simp only [Act.put, List.setIfInBounds_toArray, List.set_cons_zero, List.set_cons_succ, i64_w, i32_w]
    rfl
  refine take_ (i := 13) (N := some 21) (v := ?_) (a' := ?_) #[true, true, true, true, false, true, true, true, true, false, true, true, true, true, true, true, true, false, false, false, false, false] rfl rfl (by kernel_rfl) (fun _ _ _ h => h) (Or.inl ⟨by rfl, ?_⟩) hHeld ?_ ?_
  rotate_left
  · rintro w' s0
    have hl := HLK.out w' s0.1 xs
    go_simp
    with_reducible rfl
  rotate_left
  · simp only [Act.put, List.setIfInBounds_toArray, List.set_cons_zero, List.set_cons_succ, i64_w, i32_w]
    rfl
  refine take_ (i := 17) (N := some 25) (v := ?_) (a' := ?_) #[true, true, true, true, false, true, true, true, true, false, true, true, true, true, true, true, true, true, false, false, false, false] rfl rfl (by kernel_rfl) (fun _ _ _ h => h) (Or.inl ⟨by rfl, ?_⟩) hHeld ?_ ?_
  rotate_left
  · rintro w' s0
    have hl := HLK.out w' s0.1 ys
    go_simp
    with_reducible rfl
  rotate_left
  · simp only [Act.put, List.setIfInBounds_toArray, List.set_cons_zero, List.set_cons_succ, i64_w, i32_w]
    rfl
  refine one_ (i := 4) (N := some 12) #[true, true, true, true, true, true, true, true, true, false, true, true, true, true, true, true, true, true, false, false, false, false] rfl rfl (by kernel_rfl) (by decide) (fun K hK => ?_)
  refine goes_ Try.func75 (by kernel_rfl) rfl #[.int .i64 xa, .int .i64 ya] (by rfl) rfl rfl (by (try simp only [List.map_toArray, List.map_cons, List.map_nil]); first | done | rfl) ?_
  refine (cmpI_calls xa ya _).mono ?_
  rintro e2 w3 ⟨rfl, hb3⟩
  refine ⟨_, rfl, ?_⟩
  have hB := hHeld.trans hb3
  refine hK.out _ _ hB (fun _ => ?_)
  clear hK K hHeld hb3
  have hHeld := hB
  clear hB
  refine norm_ (a' := ?_) ?_ ?_
  rotate_left
  · show Act.put _ (some 12) _ = _
    simp only [Act.put, List.setIfInBounds_toArray, List.set_cons_zero, List.set_cons_succ, i64_w, i32_w]
    rfl
  refine one_ (i := 9) (N := some 17) #[true, true, true, true, true, true, true, true, true, true, true, true, true, true, true, true, true, true, false, false, false, false] rfl rfl (by kernel_rfl) (by decide) (fun K hK => ?_)
  refine goes_ Try.func75 (by kernel_rfl) rfl #[.int .i64 xb, .int .i64 yb] (by rfl) rfl rfl (by (try simp only [List.map_toArray, List.map_cons, List.map_nil]); first | done | rfl) ?_
  refine (cmpI_calls xb yb _).mono ?_
  rintro e2 w4 ⟨rfl, hb3⟩
  refine ⟨_, rfl, ?_⟩
  have hB := hHeld.trans hb3
  refine hK.out _ _ hB (fun _ => ?_)
  clear hK K hHeld hb3
  have hHeld := hB
  clear hB
  refine norm_ (a' := ?_) ?_ ?_
  rotate_left
  · show Act.put _ (some 17) _ = _
    simp only [Act.put, List.setIfInBounds_toArray, List.set_cons_zero, List.set_cons_succ, i64_w, i32_w]
    rfl
  refine one_ (i := 18) (N := some 26) #[true, true, true, true, true, true, true, true, true, true, true, true, true, true, true, true, true, true, true, false, false, false] rfl rfl (by kernel_rfl) (by decide) (fun K hK => ?_)
  refine goes_ Try.func75 (by kernel_rfl) rfl #[.int .i64 (b2i xs), .int .i64 (b2i ys)] (by rfl) rfl rfl (by (try simp only [List.map_toArray, List.map_cons, List.map_nil]); first | done | rfl) ?_
  refine (cmpI_calls (b2i xs) (b2i ys) _).mono ?_
  rintro e2 w5 ⟨rfl, hb3⟩
  refine ⟨_, rfl, ?_⟩
  have hB := hHeld.trans hb3
  refine hK.out _ _ hB (fun _ => ?_)
  clear hK K hHeld hb3
  have hHeld := hB
  clear hB
  refine norm_ (a' := ?_) ?_ ?_
  rotate_left
  · show Act.put _ (some 26) _ = _
    simp only [Act.put, List.setIfInBounds_toArray, List.set_cons_zero, List.set_cons_succ, i64_w, i32_w]
    rfl
  refine one_ (i := 19) (N := some 27) #[true, true, true, true, true, true, true, true, true, true, true, true, true, true, true, true, true, true, true, true, false, false] rfl rfl (by kernel_rfl) (by decide) (fun K hK => ?_)
  refine value_ (by rfl) rfl (w1 := World.alloc w5 (.cells #[.int .i64 (cmpI xa ya), .int .i64 (cmpI xb yb), .int .i64 (cmpI (b2i xs) (b2i ys))] 3)) (v := .slice (some ⟨w5.heap.size, 0, none⟩) 3 3) (by go_simp) ?_
  have hB := hHeld.trans (Grew.alloc w5 (.cells #[.int .i64 (cmpI xa ya), .int .i64 (cmpI xb yb), .int .i64 (cmpI (b2i xs) (b2i ys))] 3))
  have hrow := blk_new w5 (.cells #[.int .i64 (cmpI xa ya), .int .i64 (cmpI xb yb), .int .i64 (cmpI (b2i xs) (b2i ys))] 3)
  refine hK.out _ _ hB (fun _ => ?_)
  clear hK K hHeld
  have hHeld := hB
  clear hB
  refine norm_ (a' := ?_) ?_ ?_
  rotate_left
  · show Act.put _ (some 27) _ = _
    simp only [Act.put, List.setIfInBounds_toArray, List.set_cons_zero, List.set_cons_succ, i64_w, i32_w]
    rfl
  refine one_ (i := 20) (N := some 28) #[true, true, true, true, true, true, true, true, true, true, true, true, true, true, true, true, true, true, true, true, true, false] rfl rfl (by kernel_rfl) (by decide) (fun K hK => ?_)
  refine goes_ Try.func52 (by kernel_rfl) rfl #[.slice (some ⟨w5.heap.size, 0, none⟩) 3 3] (by rfl) rfl rfl (by (try simp only [List.map_toArray, List.map_cons, List.map_nil]); first | done | rfl) ?_
  refine (or_calls (some ⟨w5.heap.size, 0, none⟩) 3 [(cmpI xa ya), (cmpI xb yb), (cmpI (b2i xs) (b2i ys))] _ (ints_blk hrow (show (3 : Nat) ≤ 9223372036854775807 by decide)) (show (3 : Nat) ≤ 1000 by decide)).mono ?_
  rintro e2 w6 ⟨rfl, hb3⟩
  refine ⟨_, rfl, ?_⟩
  have hB := hHeld.trans hb3
  refine hK.out _ _ hB (fun _ => ?_)
  clear hK K hHeld hb3
  have hHeld := hB
  clear hB
  refine norm_ (a' := ?_) ?_ ?_
  rotate_left
  · show Act.put _ (some 28) _ = _
    simp only [Act.put, List.setIfInBounds_toArray, List.set_cons_zero, List.set_cons_succ, i64_w, i32_w]
    rfl
  refine pure_ (i := 21) (N := some 4) (v := ?_) (a' := ?_) #[true, true, true, true, true, true, true, true, true, true, true, true, true, true, true, true, true, true, true, true, true, true] rfl rfl (by kernel_rfl) (fun _ _ _ h => h) (Or.inl ⟨by rfl, ?_⟩) ?_ ?_
  rotate_left
  · intro w'
    go_simp
    with_reducible rfl
  rotate_left
  · simp only [Act.put, List.setIfInBounds_toArray, List.set_cons_zero, List.set_cons_succ, i64_w, i32_w]
    rfl
  refine done_ (by kernel_rfl) ?_
  go_wp2
  go_ret
  exact ⟨rfl, HG0.out.trans hHeld⟩
theorem cmpAs_step {a b : List Ac} {i : Nat} (ha : i < a.length) (hb : i < b.length) : cmpAs (a.drop i) (b.drop i) = if cmpA a[i] b[i] = 0 then cmpAs (a.drop (i + 1)) (b.drop (i + 1)) else cmpA a[i] b[i] := by
  rw [List.drop_eq_getElem_cons ha, List.drop_eq_getElem_cons hb]
  rfl
theorem cmpAs_long {a b : List Ac} {i : Nat} (ha : i < a.length) (hb : b.length ≤ i) : cmpAs (a.drop i) (b.drop i) = 1 := by
  rw [List.drop_eq_getElem_cons ha, List.drop_eq_nil_of_le hb]
  rfl
theorem cmpAs_end {a b : List Ac} {i : Nat} (ha : a.length ≤ i) : cmpAs (a.drop i) (b.drop i) = if i < b.length then -1 else 0 := by
  rw [List.drop_eq_nil_of_le ha]
  split
  · rename_i h
    rw [List.drop_eq_getElem_cons h]
    rfl
  · rw [List.drop_eq_nil_of_le (by omega)]
    rfl
set_option maxHeartbeats 4000000 in
set_option maxRecDepth 100000 in
theorem cmpAs_calls (A B : Option Addr) (p q : Nat) (a b : List Ac) (w : World) (ha : kAc.C w A a.length a) (hb : kAc.C w B b.length b) : Calls Try.prog 54 #[.slice A a.length p, .slice B b.length q, .func (.func 55) #[] #[]] w fun e w' => e = .returned (.int .i64 (cmpAs a b)) ∧ Grew w w' := by
  have HCA := Aside0.mk ha
  have HCB := Aside0.mk hb
  have HLA := Aside0.mk (show a.length ≤ 9223372036854775807 from ha.2.1)
  clear ha hb
  go_enter Try.func54, Try.ntmps54
  go_wp2
  go_loopg [13] a.length (fun kq v13 w' => ∃ (i : Nat), v13 = .int .i64 (i : Int) ∧ Aside0 (kq + i = a.length) ∧ Aside0 (cmpAs a b = cmpAs (a.drop i) (b.drop i)) ∧ Aside0 (i ≤ b.length) ∧ Aside0 (Grew w w'))
  case atStart => exact ⟨0, rfl, ⟨rfl⟩, ⟨rfl⟩, ⟨Nat.zero_le _⟩, ⟨Grew.refl _⟩⟩
  case round =>
    obtain ⟨i, rfl, HK, HI, HIB, HG⟩ := hrel
    by_cases hlt : i < a.length
    · have hdx : decide ((i : Int) < (a.length : Int)) = true := decide_eq_true (by omega)
      have hi0 : (i : Int) < (a.length : Int) := by omega
      have hib : wrap64 ((i : Int) + 1) = (i : Int) + 1 := by have := HLA.out; unfold wrap64; omega
      have HLT := Aside0.mk hlt
      obtain ⟨ad, ea, hqa⟩ := ac_cells (Kd.C_below HCA.out HG.out.1) i hlt
      obtain ⟨q0, q1, q2⟩ := hqa wr (Below.refl _ _)
      by_cases hlt2 : i < b.length
      · have hdy : decide ((b.length : Int) ≤ (i : Int)) = false := decide_eq_false (by omega)
        have hdz : ¬ b.length ≤ i := by omega
        have hi1 : (i : Int) < (b.length : Int) := by omega
        have HLT2 := Aside0.mk hlt2
        obtain ⟨bd, eb, hqb⟩ := ac_cells (Kd.C_below HCB.out HG.out.1) i hlt2
        have HI2 := Aside0.mk (HI.out.trans (cmpAs_step hlt hlt2))
        generalize a[i] = x at hqa HI2 q0 q1 q2
        generalize b[i] = y at hqb HI2
        obtain ⟨xa, xb, xs⟩ := x
        obtain ⟨ya, yb, ys⟩ := y
        dsimp only at hqa hqb q0 q1 q2
        have HCM := Aside0.mk (fun W => cmpA_calls ⟨xa, xb, xs⟩ ⟨ya, yb, ys⟩ W)
        have HG1 := Aside0.mk (HG.out.trans (Grew.alloc wr (.cells #[.int .i64 xa, .int .i64 xb, .bool xs] 24)))
        have HG2 := Aside0.mk ((HG.out.trans (Grew.alloc wr (.cells #[.int .i64 xa, .int .i64 xb, .bool xs] 24))).trans (Grew.alloc (wr.alloc (.cells #[.int .i64 xa, .int .i64 xb, .bool xs] 24)) (.cells #[.int .i64 ya, .int .i64 yb, .bool ys] 24)))
        obtain ⟨z0, z1, z2⟩ := hqb (wr.alloc (.cells #[.int .i64 xa, .int .i64 xb, .bool xs] 24)) (below_alloc (Below.refl _ _) _)
        subst ea
        subst eb
        clear hqa hqb
        generalize cmpA ⟨xa, xb, xs⟩ ⟨ya, yb, ys⟩ = r at HI2 HCM
        by_cases hr : r = 0
        · have n1 : (r != 0) = false := by simp [hr]
          have HI3 := Aside0.mk (HI2.out.trans (if_pos hr))
          clear hr
          go_wp2_with (go_at_call 55; refine (HCM.out _).mono ?_; rintro e w5 ⟨rfl, hb5⟩; have HG5 := Aside0.mk (HG2.out.trans hb5); clear hb5)
          go_roundg (a.length - i - 1)
          case measure => have := HK.out; omega
          case rel => exact ⟨i + 1, by go_num, ⟨by have := HK.out; have := HLT.out; omega⟩, HI3, ⟨by have := HLT2.out; omega⟩, HG5⟩
        · have n1 : (r != 0) = true := by simpa using hr
          have HI3 := Aside0.mk (HI2.out.trans (if_neg hr))
          clear hr
          go_wp2_with (go_at_call 55; refine (HCM.out _).mono ?_; rintro e w5 ⟨rfl, hb5⟩; have HG5 := Aside0.mk (HG2.out.trans hb5); clear hb5)
          go_ret
          exact ⟨by rw [HI3.out]; rfl, HG5.out⟩
      · have hdy : decide ((b.length : Int) ≤ (i : Int)) = true := decide_eq_true (by omega)
        have hdz : b.length ≤ i := by omega
        have HE := Aside0.mk (HI.out.trans (cmpAs_long hlt (by omega)))
        generalize a[i] = x at hqa q0 q1 q2
        obtain ⟨xa, xb, xs⟩ := x
        dsimp only at hqa q0 q1 q2
        have HG1 := Aside0.mk (HG.out.trans (Grew.alloc wr (.cells #[.int .i64 xa, .int .i64 xb, .bool xs] 24)))
        subst ea
        clear hqa
        go_wp2
        go_ret
        exact ⟨by rw [HE.out]; rfl, HG1.out⟩
    · have hdx : decide ((i : Int) < (a.length : Int)) = false := decide_eq_false (by omega)
      have hia : i = a.length := by have := HK.out; omega
      have HE := HI.out.trans (cmpAs_end (b := b) (show a.length ≤ i by omega))
      by_cases h2 : a.length < b.length
      · have d1 : decide ((a.length : Int) < (b.length : Int)) = true := decide_eq_true (by omega)
        have HE2 := Aside0.mk (HE.trans (if_pos (by omega)))
        clear HE hia
        go_wp2
        go_ret
        exact ⟨by rw [HE2.out]; rfl, HG.out⟩
      · have d1 : decide ((a.length : Int) < (b.length : Int)) = false := decide_eq_false (by omega)
        have HE2 := Aside0.mk (HE.trans (if_neg (by omega)))
        clear HE hia
        go_wp2
        go_ret
        exact ⟨by rw [HE2.out]; rfl, HG.out⟩
set_option maxHeartbeats 4000000 in
set_option maxRecDepth 100000 in
theorem cmpC_calls (A B : Option Addr) (p q : Nat) (a b : Cl) (w : World) (ha : kAc.C w A a.arcs.length a.arcs) (hb : kAc.C w B b.arcs.length b.arcs) : Calls Try.prog 51 #[.agg #[.string a.src, .string a.dst, .slice A a.arcs.length p], .agg #[.string b.src, .string b.dst, .slice B b.arcs.length q]] w fun e w' => e = .returned (.int .i64 (cmpC a b)) ∧ Grew w w' := by
  have hg0 : Grew w ((w.alloc (.cells #[.string a.src, .string a.dst, .slice A a.arcs.length p] 34)).alloc (.cells #[.string b.src, .string b.dst, .slice B b.arcs.length q] 34)) := (Grew.alloc _ _).trans (Grew.alloc _ _)
  have HG0 := Aside0.mk hg0
  have HBA : Aside0 (Blk ((w.alloc (.cells #[.string a.src, .string a.dst, .slice A a.arcs.length p] 34)).alloc (.cells #[.string b.src, .string b.dst, .slice B b.arcs.length q] 34)) w.heap.size a A p) := ⟨blk_below (blk_new w _) (below_alloc (Below.refl _ _) _)⟩
  have HBB : Aside0 (Blk ((w.alloc (.cells #[.string a.src, .string a.dst, .slice A a.arcs.length p] 34)).alloc (.cells #[.string b.src, .string b.dst, .slice B b.arcs.length q] 34)) (w.heap.size + 1) b B q) := ⟨by
    have h1 := blk_new (w.alloc (.cells #[.string a.src, .string a.dst, .slice A a.arcs.length p] 34)) (.cells #[.string b.src, .string b.dst, .slice B b.arcs.length q] 34)
    rw [World.size_alloc] at h1
    exact h1⟩
  have HCF0 := Aside0.mk (fun (W : World) (h : Below w.heap.size w W) => cmpAs_calls A B p q a.arcs b.arcs W (Kd.C_below ha h) (Kd.C_below hb h))
  clear ha hb hg0
  go_enter Try.func51, Try.ntmps51
  go_wp2
  generalize (w.alloc (.cells #[.string a.src, .string a.dst, .slice A a.arcs.length p] 34)).alloc (.cells #[.string b.src, .string b.dst, .slice B b.arcs.length q] 34) = W0 at HG0 HBA HBB ⊢
  have HCF := Aside0.mk (fun (W : World) (h : Below W0.heap.size W0 W) => HCF0.out W (below_step HG0.out.1 h))
  refine start_ (n := 18) (S := fun w' => Grew W0 w') (ds := []) #[false, false, false, false, false, false, false, false, false, false, false, false, false, false, false, false, false, false] (by kernel_rfl) rfl rfl (Grew.drew _) (fun hHeld => ?_)
  refine pure_ (i := 0) (N := some 5) (v := ?_) (a' := ?_) #[true, false, false, false, false, false, false, false, false, false, false, false, false, false, false, false, false, false] rfl rfl (by kernel_rfl) (fun _ _ _ h => h) (Or.inl ⟨by rfl, ?_⟩) ?_ ?_
  rotate_left
  · intro w'
    go_simp
    with_reducible rfl
  rotate_left
  · simp only [Act.put, List.setIfInBounds_toArray, List.set_cons_zero, List.set_cons_succ, i64_w, i32_w]
    rfl
  refine take_ (i := 1) (N := some 6) (v := ?_) (a' := ?_) #[true, true, false, false, false, false, false, false, false, false, false, false, false, false, false, false, false, false] rfl rfl (by kernel_rfl) (fun _ _ _ h => h) (Or.inl ⟨by rfl, ?_⟩) hHeld ?_ ?_
  rotate_left
  · rintro w' s0
    obtain ⟨y0, y1, y2⟩ := Blk.cells (HBA.out.go s0.1)
    go_simp
    with_reducible rfl
  rotate_left
  · simp only [Act.put, List.setIfInBounds_toArray, List.set_cons_zero, List.set_cons_succ, i64_w, i32_w]
    rfl
  refine pure_ (i := 2) (N := some 7) (v := ?_) (a' := ?_) #[true, true, true, false, false, false, false, false, false, false, false, false, false, false, false, false, false, false] rfl rfl (by kernel_rfl) (fun _ _ _ h => h) (Or.inl ⟨by rfl, ?_⟩) ?_ ?_
  rotate_left
  · intro w'
    go_simp
    with_reducible rfl
  rotate_left
  · simp only [Act.put, List.setIfInBounds_toArray, List.set_cons_zero, List.set_cons_succ, i64_w, i32_w]
    rfl
  refine take_ (i := 3) (N := some 8) (v := ?_) (a' := ?_) #[true, true, true, true, false, false, false, false, false, false, false, false, false, false, false, false, false, false] rfl rfl (by kernel_rfl) (fun _ _ _ h => h) (Or.inl ⟨by rfl, ?_⟩) hHeld ?_ ?_
  rotate_left
  · rintro w' s0
    obtain ⟨z0, z1, z2⟩ := Blk.cells (HBB.out.go s0.1)
    go_simp
    with_reducible rfl
  rotate_left
  · simp only [Act.put, List.setIfInBounds_toArray, List.set_cons_zero, List.set_cons_succ, i64_w, i32_w]
    rfl
  refine pure_ (i := 5) (N := some 10) (v := ?_) (a' := ?_) #[true, true, true, true, false, true, false, false, false, false, false, false, false, false, false, false, false, false] rfl rfl (by kernel_rfl) (fun _ _ _ h => h) (Or.inl ⟨by rfl, ?_⟩) ?_ ?_
  rotate_left
  · intro w'
    go_simp
    with_reducible rfl
  rotate_left
  · simp only [Act.put, List.setIfInBounds_toArray, List.set_cons_zero, List.set_cons_succ, i64_w, i32_w]
    rfl
  refine take_ (i := 6) (N := some 11) (v := ?_) (a' := ?_) #[true, true, true, true, false, true, true, false, false, false, false, false, false, false, false, false, false, false] rfl rfl (by kernel_rfl) (fun _ _ _ h => h) (Or.inl ⟨by rfl, ?_⟩) hHeld ?_ ?_
  rotate_left
  · rintro w' s0
    obtain ⟨y0, y1, y2⟩ := Blk.cells (HBA.out.go s0.1)
    go_simp
    with_reducible rfl
  rotate_left
  · simp only [Act.put, List.setIfInBounds_toArray, List.set_cons_zero, List.set_cons_succ, i64_w, i32_w]
    rfl
  refine pure_ (i := 7) (N := some 12) (v := ?_) (a' := ?_) #[true, true, true, true, false, true, true, true, false, false, false, false, false, false, false, false, false, false] rfl rfl (by kernel_rfl) (fun _ _ _ h => h) (Or.inl ⟨by rfl, ?_⟩) ?_ ?_
  rotate_left
  · intro w'
    go_simp
    with_reducible rfl
  rotate_left
  · simp only [Act.put, List.setIfInBounds_toArray, List.set_cons_zero, List.set_cons_succ, i64_w, i32_w]
    rfl
  refine take_ (i := 8) (N := some 13) (v := ?_) (a' := ?_) #[true, true, true, true, false, true, true, true, true, false, false, false, false, false, false, false, false, false] rfl rfl (by kernel_rfl) (fun _ _ _ h => h) (Or.inl ⟨by rfl, ?_⟩) hHeld ?_ ?_
  rotate_left
  · rintro w' s0
    obtain ⟨z0, z1, z2⟩ := Blk.cells (HBB.out.go s0.1)
    go_simp
    with_reducible rfl
  rotate_left
  · simp only [Act.put, List.setIfInBounds_toArray, List.set_cons_zero, List.set_cons_succ, i64_w, i32_w]
    rfl
  refine pure_ (i := 10) (N := some 15) (v := ?_) (a' := ?_) #[true, true, true, true, false, true, true, true, true, false, true, false, false, false, false, false, false, false] rfl rfl (by kernel_rfl) (fun _ _ _ h => h) (Or.inl ⟨by rfl, ?_⟩) ?_ ?_
  rotate_left
  · intro w'
    go_simp
    with_reducible rfl
  rotate_left
  · simp only [Act.put, List.setIfInBounds_toArray, List.set_cons_zero, List.set_cons_succ, i64_w, i32_w]
    rfl
  refine take_ (i := 11) (N := some 16) (v := ?_) (a' := ?_) #[true, true, true, true, false, true, true, true, true, false, true, true, false, false, false, false, false, false] rfl rfl (by kernel_rfl) (fun _ _ _ h => h) (Or.inl ⟨by rfl, ?_⟩) hHeld ?_ ?_
  rotate_left
  · rintro w' s0
    obtain ⟨y0, y1, y2⟩ := Blk.cells (HBA.out.go s0.1)
    go_simp
    with_reducible rfl
  rotate_left
  · simp only [Act.put, List.setIfInBounds_toArray, List.set_cons_zero, List.set_cons_succ, i64_w, i32_w]
    rfl
  refine pure_ (i := 12) (N := some 17) (v := ?_) (a' := ?_) #[true, true, true, true, false, true, true, true, true, false, true, true, true, false, false, false, false, false] rfl rfl (by kernel_rfl) (fun _ _ _ h => h) (Or.inl ⟨by rfl, ?_⟩) ?_ ?_
  rotate_left
  · intro w'
    go_simp
    with_reducible rfl
  rotate_left
  · simp only [Act.put, List.setIfInBounds_toArray, List.set_cons_zero, List.set_cons_succ, i64_w, i32_w]
    rfl
  refine take_ (i := 13) (N := some 18) (v := ?_) (a' := ?_) #[true, true, true, true, false, true, true, true, true, false, true, true, true, true, false, false, false, false] rfl rfl (by kernel_rfl) (fun _ _ _ h => h) (Or.inl ⟨by rfl, ?_⟩) hHeld ?_ ?_
  rotate_left
  · rintro w' s0
    obtain ⟨z0, z1, z2⟩ := Blk.cells (HBB.out.go s0.1)
    go_simp
    with_reducible rfl
  rotate_left
  · simp only [Act.put, List.setIfInBounds_toArray, List.set_cons_zero, List.set_cons_succ, i64_w, i32_w]
    rfl
  refine one_ (i := 4) (N := some 9) #[true, true, true, true, true, true, true, true, true, false, true, true, true, true, false, false, false, false] rfl rfl (by kernel_rfl) (by decide) (fun K hK => ?_)
  refine goes_ Try.func53 (by kernel_rfl) rfl #[.string a.src, .string b.src] (by rfl) rfl rfl (by (try simp only [List.map_toArray, List.map_cons, List.map_nil]); first | done | rfl) ?_
  refine (cmpS_calls a.src b.src _).mono ?_
  rintro e2 w3 ⟨rfl, hb3⟩
  refine ⟨_, rfl, ?_⟩
  have hB := hHeld.trans hb3
  refine hK.out _ _ hB (fun _ => ?_)
  clear hK K hHeld hb3
  have hHeld := hB
  clear hB
  refine norm_ (a' := ?_) ?_ ?_
  rotate_left
  · show Act.put _ (some 9) _ = _
    simp only [Act.put, List.setIfInBounds_toArray, List.set_cons_zero, List.set_cons_succ, i64_w, i32_w]
    rfl
  refine one_ (i := 9) (N := some 14) #[true, true, true, true, true, true, true, true, true, true, true, true, true, true, false, false, false, false] rfl rfl (by kernel_rfl) (by decide) (fun K hK => ?_)
  refine goes_ Try.func53 (by kernel_rfl) rfl #[.string a.dst, .string b.dst] (by rfl) rfl rfl (by (try simp only [List.map_toArray, List.map_cons, List.map_nil]); first | done | rfl) ?_
  refine (cmpS_calls a.dst b.dst _).mono ?_
  rintro e2 w4 ⟨rfl, hb3⟩
  refine ⟨_, rfl, ?_⟩
  have hB := hHeld.trans hb3
  refine hK.out _ _ hB (fun _ => ?_)
  clear hK K hHeld hb3
  have hHeld := hB
  clear hB
  refine norm_ (a' := ?_) ?_ ?_
  rotate_left
  · show Act.put _ (some 14) _ = _
    simp only [Act.put, List.setIfInBounds_toArray, List.set_cons_zero, List.set_cons_succ, i64_w, i32_w]
    rfl
  refine one_ (i := 14) (N := some 19) #[true, true, true, true, true, true, true, true, true, true, true, true, true, true, true, false, false, false] rfl rfl (by kernel_rfl) (by decide) (fun K hK => ?_)
  refine goes_ Try.func54 (by kernel_rfl) rfl #[.slice A a.arcs.length p, .slice B b.arcs.length q, .func (.func 55) #[] #[]] (by rfl) rfl rfl (by (try simp only [List.map_toArray, List.map_cons, List.map_nil]); first | done | rfl) ?_
  refine (HCF.out _ hHeld.1).mono ?_
  rintro e2 w5 ⟨rfl, hb3⟩
  refine ⟨_, rfl, ?_⟩
  have hB := hHeld.trans hb3
  refine hK.out _ _ hB (fun _ => ?_)
  clear hK K hHeld hb3
  have hHeld := hB
  clear hB
  refine norm_ (a' := ?_) ?_ ?_
  rotate_left
  · show Act.put _ (some 19) _ = _
    simp only [Act.put, List.setIfInBounds_toArray, List.set_cons_zero, List.set_cons_succ, i64_w, i32_w]
    rfl
  refine one_ (i := 15) (N := some 20) #[true, true, true, true, true, true, true, true, true, true, true, true, true, true, true, true, false, false] rfl rfl (by kernel_rfl) (by decide) (fun K hK => ?_)
  refine value_ (by rfl) rfl (w1 := World.alloc w5 (.cells #[.int .i64 (cmpS a.src b.src), .int .i64 (cmpS a.dst b.dst), .int .i64 (cmpAs a.arcs b.arcs)] 3)) (v := .slice (some ⟨w5.heap.size, 0, none⟩) 3 3) (by go_simp) ?_
  have hB := hHeld.trans (Grew.alloc w5 (.cells #[.int .i64 (cmpS a.src b.src), .int .i64 (cmpS a.dst b.dst), .int .i64 (cmpAs a.arcs b.arcs)] 3))
  have hrow := blk_new w5 (.cells #[.int .i64 (cmpS a.src b.src), .int .i64 (cmpS a.dst b.dst), .int .i64 (cmpAs a.arcs b.arcs)] 3)
  refine hK.out _ _ hB (fun _ => ?_)
  clear hK K hHeld
  have hHeld := hB
  clear hB
  refine norm_ (a' := ?_) ?_ ?_
  rotate_left
  · show Act.put _ (some 20) _ = _
    simp only [Act.put, List.setIfInBounds_toArray, List.set_cons_zero, List.set_cons_succ, i64_w, i32_w]
    rfl
  refine one_ (i := 16) (N := some 21) #[true, true, true, true, true, true, true, true, true, true, true, true, true, true, true, true, true, false] rfl rfl (by kernel_rfl) (by decide) (fun K hK => ?_)
  refine goes_ Try.func52 (by kernel_rfl) rfl #[.slice (some ⟨w5.heap.size, 0, none⟩) 3 3] (by rfl) rfl rfl (by (try simp only [List.map_toArray, List.map_cons, List.map_nil]); first | done | rfl) ?_
  refine (or_calls (some ⟨w5.heap.size, 0, none⟩) 3 [(cmpS a.src b.src), (cmpS a.dst b.dst), (cmpAs a.arcs b.arcs)] _ (ints_blk hrow (show (3 : Nat) ≤ 9223372036854775807 by decide)) (show (3 : Nat) ≤ 1000 by decide)).mono ?_
  rintro e2 w6 ⟨rfl, hb3⟩
  refine ⟨_, rfl, ?_⟩
  have hB := hHeld.trans hb3
  refine hK.out _ _ hB (fun _ => ?_)
  clear hK K hHeld hb3
  have hHeld := hB
  clear hB
  refine norm_ (a' := ?_) ?_ ?_
  rotate_left
  · show Act.put _ (some 21) _ = _
    simp only [Act.put, List.setIfInBounds_toArray, List.set_cons_zero, List.set_cons_succ, i64_w, i32_w]
    rfl
  refine pure_ (i := 17) (N := some 4) (v := ?_) (a' := ?_) #[true, true, true, true, true, true, true, true, true, true, true, true, true, true, true, true, true, true] rfl rfl (by kernel_rfl) (fun _ _ _ h => h) (Or.inl ⟨by rfl, ?_⟩) ?_ ?_
  rotate_left
  · intro w'
    go_simp
    with_reducible rfl
  rotate_left
  · simp only [Act.put, List.setIfInBounds_toArray, List.set_cons_zero, List.set_cons_succ, i64_w, i32_w]
    rfl
  refine done_ (by kernel_rfl) ?_
  go_wp2
  go_ret
  exact ⟨rfl, HG0.out.trans hHeld⟩
end
section
open Go.Sort (grow putRow SWO flatK get_flatK size_flatK HoldsK holds_putRow holds_ahead size_putRow putRowK PermIn SortedIn)

/-- slices.SortFunc of this program, as the shelf's contract names its parts. -/
def lSort_ren : Go.Shelf.Ren := ⟨fun | 6 => 50 | 15 => 73 | 14 => 72 | 28 => 101 | 29 => 102 | 20 => 93 | 21 => 94 | 22 => 95 | 23 => 96 | 24 => 97 | 25 => 98 | 26 => 99 | 27 => 100 | 46 => 128 | 47 => 129 | 48 => 130 | 49 => 131 | 50 => 132 | 57 => 147 | n => n, fun | 22 => 22 | 24 => 34 | 25 => 102 | 3 => 3 | 39 => 130 | 0 => 0 | 53 => 170 | 55 => 172 | 4 => 4 | 46 => 163 | 45 => 162 | 50 => 167 | 5 => 5 | 9 => 9 | 66 => 202 | 70 => 188 | 76 => 224 | 77 => 225 | n => n, fun | n => n⟩
theorem lSort : Go.Proofs.SlLaysF0.n6 Try.prog lSort_ren := {
  mixed := by kernel_rfl,
  f6 := ⟨Try.f50.name, by decide, Try.func50.trans (congrArg some (by kernel_rfl))⟩,
  f14 := ⟨Try.f72.name, by decide, Try.func72.trans (congrArg some (by kernel_rfl))⟩,
  f15 := Try.func73.trans (congrArg some (by kernel_rfl)),
  f20 := ⟨Try.f93.name, by decide, Try.func93.trans (congrArg some (by kernel_rfl))⟩,
  f21 := ⟨Try.f94.name, by decide, Try.func94.trans (congrArg some (by kernel_rfl))⟩,
  f22 := ⟨Try.f95.name, by decide, Try.func95.trans (congrArg some (by kernel_rfl))⟩,
  f23 := ⟨Try.f96.name, by decide, Try.func96.trans (congrArg some (by kernel_rfl))⟩,
  f24 := ⟨Try.f97.name, by decide, Try.func97.trans (congrArg some (by kernel_rfl))⟩,
  f25 := ⟨Try.f98.name, by decide, Try.func98.trans (congrArg some (by kernel_rfl))⟩,
  f26 := ⟨Try.f99.name, by decide, Try.func99.trans (congrArg some (by kernel_rfl))⟩,
  f27 := ⟨Try.f100.name, by decide, Try.func100.trans (congrArg some (by kernel_rfl))⟩,
  f28 := Try.func101.trans (congrArg some (by kernel_rfl)),
  f29 := Try.func102.trans (congrArg some (by kernel_rfl)),
  f46 := ⟨Try.f128.name, by decide, Try.func128.trans (congrArg some (by kernel_rfl))⟩,
  f47 := Try.func129.trans (congrArg some (by kernel_rfl)),
  f48 := Try.func130.trans (congrArg some (by kernel_rfl)),
  f49 := ⟨Try.f131.name, by decide, Try.func131.trans (congrArg some (by kernel_rfl))⟩,
  f50 := ⟨Try.f132.name, by decide, Try.func132.trans (congrArg some (by kernel_rfl))⟩,
  f57 := ⟨Try.f147.name, by decide, Try.func147.trans (congrArg some (by kernel_rfl))⟩,
  t0 := Try.underlying0,
  a0 := Try.isAgg0,
  z0 := Try.sizeOf0,
  v0 := Try.zeroValue0,
  t3 := Try.underlying3,
  a3 := Try.isAgg3,
  z3 := Try.sizeOf3,
  v3 := Try.zeroValue3,
  t4 := Try.underlying4,
  a4 := Try.isAgg4,
  z4 := Try.sizeOf4,
  v4 := Try.zeroValue4,
  t5 := Try.underlying5,
  a5 := Try.isAgg5,
  z5 := Try.sizeOf5,
  v5 := Try.zeroValue5,
  t9 := Try.underlying9,
  a9 := Try.isAgg9,
  z9 := Try.sizeOf9,
  v9 := Try.zeroValue9,
  t22 := Try.underlying22,
  a22 := Try.isAgg22,
  z22 := Try.sizeOf22,
  v22 := Try.zeroValue22,
  t25 := Try.underlying102,
  a25 := Try.isAgg102,
  z25 := Try.sizeOf102,
  v25 := Try.zeroValue102,
  t39 := Try.underlying130,
  a39 := Try.isAgg130,
  z39 := Try.sizeOf130,
  v39 := Try.zeroValue130,
  t45 := Try.underlying162,
  a45 := Try.isAgg162,
  z45 := Try.sizeOf162,
  v45 := Try.zeroValue162,
  t46 := Try.underlying163,
  a46 := Try.isAgg163,
  z46 := Try.sizeOf163,
  v46 := Try.zeroValue163,
  t50 := Try.underlying167,
  a50 := Try.isAgg167,
  z50 := Try.sizeOf167,
  v50 := Try.zeroValue167,
  t53 := Try.underlying170,
  a53 := Try.isAgg170,
  z53 := Try.sizeOf170,
  v53 := Try.zeroValue170,
  t55 := Try.underlying172,
  a55 := Try.isAgg172,
  z55 := Try.sizeOf172,
  v55 := Try.zeroValue172,
  t66 := Try.underlying202,
  a66 := Try.isAgg202,
  z66 := Try.sizeOf202,
  v66 := Try.zeroValue202,
  t70 := Try.underlying188,
  a70 := Try.isAgg188,
  z70 := Try.sizeOf188,
  v70 := Try.zeroValue188,
  t76 := Try.underlying224,
  a76 := Try.isAgg224,
  z76 := Try.sizeOf224,
  v76 := Try.zeroValue224,
  t77 := Try.underlying225,
  a77 := Try.isAgg225,
  z77 := Try.sizeOf225,
  v77 := Try.zeroValue225
}
section
variable (p : Option Addr) (cap : Nat) (fv : Value)
set_option maxHeartbeats 2000000 in
theorem ins_none (w : World) : Calls Try.prog 93 #[.slice p 0 cap, .int .i64 0, .int .i64 0, fv] w fun e w' => e = .returned (.tuple #[]) ∧ w' = w := by
  go_enter Try.func93, Try.ntmps93
  go_wp2
  refine wp_loop_rounds 1 ?_
  rw [rounds_succ]
  go_wp2
  go_end0
  exact ⟨rfl, rfl⟩
set_option maxHeartbeats 2000000 in
theorem pdq_none (lim : Int) (w : World) : Calls Try.prog 72 #[.slice p 0 cap, .int .i64 0, .int .i64 0, .int .i64 lim, fv] w fun e w' => e = .returned (.tuple #[]) ∧ w' = w := by
  go_enter Try.func72, Try.ntmps72
  go_wp2
  refine wp_loop_rounds 1 ?_
  rw [rounds_succ]
  go_wp2_with (go_at_call 93; refine (ins_none p cap fv _).mono ?_; rintro e w' ⟨rfl, rfl⟩)
  (try simp only [Exit.inBlock, Exit.then]); refine bodyPost_ret (results_none rfl _ _ _) rfl ?_
  exact ⟨rfl, rfl⟩
set_option maxHeartbeats 2000000 in
theorem sort_none (w : World) : Calls Try.prog 50 #[.slice p 0 cap, fv] w fun e w' => e = .returned (.tuple #[]) ∧ w' = w := by
  have hl := Go.Proofs.Any.bits_Len (Go.Proofs.SlLaysF0.n15.bits (P := Try.prog) (ρ := lSort_ren) { lSort with }) 0 w (by omega) (by omega)
  change Calls Try.prog 73 _ _ _ at hl
  go_enter Try.func50, Try.ntmps50
  go_wp2_with (first | (go_at_call 73; refine hl.mono ?_; rintro e w' ⟨rfl, rfl⟩) | (go_at_call 72; refine (pdq_none p cap fv _ _).mono ?_; rintro e w' ⟨rfl, rfl⟩))
  go_end0
  exact ⟨rfl, rfl⟩
end

/-- A call in a row, with what its slice of arcs is; the arcs lie outside the row's block. -/
def CxOk (w : World) (g : Nat) (x : Cl × Option Addr × Nat) : Prop := x.1.arcs.length ≤ x.2.2 ∧ ∀ W : World, (∀ k, k < w.heap.size → k ≠ g → W.heap[k]? = w.heap[k]?) → kAc.C W x.2.1 x.1.arcs.length x.1.arcs
def Cx (w : World) (g : Nat) : Type := { x : Cl × Option Addr × Nat // CxOk w g x }
instance (w : World) (g : Nat) : Inhabited (Cx w g) := ⟨⟨(⟨.empty, .empty, []⟩, none, 0), Nat.le_refl _, fun W _ => Kd.C_nil _ _⟩⟩
section
variable {w : World} {g : Nat}
def Cx.call (x : Cx w g) : Cl := x.1.1
def encX (x : Cx w g) : List Value := [.string x.1.1.src, .string x.1.1.dst, .slice x.1.2.1 x.1.1.arcs.length x.1.2.2]
def cfX (x y : Cx w g) : Int := cmpC x.call y.call
theorem encX_len (x : Cx w g) : (encX x).length = 3 := rfl
theorem encX_one (x : Cx w g) : ∀ v ∈ encX x, v.oneCell' = true := by
  intro v hv
  simp only [encX, List.mem_cons, List.not_mem_nil, or_false] at hv
  rcases hv with rfl | rfl | rfl <;> rfl
theorem ltX (x y : Cx w g) : Go.Proofs.ltOf cfX x y = lssC x.call y.call := cmpC_lt _ _
theorem lss_ntrans {a b c : Cl} (h1 : lssC a b = false) (h2 : lssC b c = false) : lssC a c = false := by
  cases h3 : lssC a c with
  | false => rfl
  | true =>
    cases h4 : lssC c b with
    | true =>
      have := ls_trans h3 h4
      rw [h1] at this
      cases this
    | false =>
      have e := ls_tri h2 h4
      subst e
      rw [h1] at h3
      cases h3
theorem swoX : SWO (Go.Proofs.ltOf (cfX (w := w) (g := g))) := ⟨fun x => by rw [ltX]; exact ls_irr _, fun x y z h1 h2 => by rw [ltX] at h1 h2 ⊢; exact ls_trans h1 h2, fun x y z h1 h2 => by rw [ltX] at h1 h2 ⊢; exact lss_ntrans h1 h2⟩
theorem sort_heap (W : World) (m : Nat) (F : Array Value) (os : Array Obj) : ∀ k, k < W.heap.size → k ≠ g → (grow (putRow id (Go.Sort.ahead W m) g 0 F) os).heap[k]? = W.heap[k]? := by
  intro k hk hne
  show ((putRow id (Go.Sort.ahead W m) g 0 F).heap ++ os)[k]? = _
  have hs : (putRow id (Go.Sort.ahead W m) g 0 F).heap.size = W.heap.size := size_putRow id (Go.Sort.ahead W m) g 0 F
  rw [Array.getElem?_append, if_pos (by rw [hs]; exact hk)]
  show (W.heap.modify g _)[k]? = _
  rw [Array.getElem?_modify, if_neg (fun e => hne e.symm)]
theorem cmpLaysX (off size : Nat) : CmpLays Try.prog 51 #[] (encX (w := w) (g := g)) 3 cfX g 0 size w := by
  intro m os dk hs x y
  rw [Array.append_empty]
  refine (cmpC_calls x.1.2.1 y.1.2.1 x.1.2.2 y.1.2.2 x.1.1 y.1.1 (sortWorldK encX 3 w g 0 m dk os) (x.2.2 _ (sort_heap w m _ os)) (y.2.2 _ (sort_heap w m _ os))).mono ?_
  rintro e w' ⟨h1, h2⟩
  exact ⟨h1, h2.exact⟩
end
theorem below_sort {W : World} {base g : Nat} (hb : base ≤ g) (m : Nat) (F : Array Value) (os : Array Obj) (hs : base ≤ W.heap.size) : Below base W (grow (putRow id (Go.Sort.ahead W m) g 0 F) os) := by
  refine ⟨rfl, rfl, rfl, ?_, fun k hk => sort_heap W m F os k (by omega) (by omega)⟩
  show W.heap.size ≤ ((putRow id (Go.Sort.ahead W m) g 0 F).heap ++ os).size
  rw [Array.size_append, size_putRow]
  show W.heap.size ≤ W.heap.size + _
  omega
set_option maxHeartbeats 2000000 in
set_option maxRecDepth 100000 in
/-- A row of calls, sorted. -/
theorem sort_calls {W : World} {base : Nat} {v : Value} {L : List Cl} (h : kCl.R 34 W base (fun _ => True) v L) (hL : L.length ≤ 1000000) (hbase : base ≤ W.heap.size) :
    Calls Try.prog 50 #[v, .func (.func 51) #[] #[]] W fun e w' => e = .returned (.tuple #[]) ∧ ∃ A cp P, v = .slice A P.length cp ∧ kCl.C w' A P.length P ∧ P.Perm L ∧ (P.Pairwise fun a b => lssC b a = false) ∧ Below base W w' := by
  obtain ⟨_, inner, ⟨hil, hown⟩, hr⟩ := h
  rcases hown with ⟨hv, hn⟩ | ⟨g, cap, cur, hv, hg, hblk, hnc, hcm, hcs, hct⟩
  · have e : L = [] := List.eq_nil_of_length_eq_zero hn
    subst e
    subst hv
    refine (sort_none none 0 (.func (.func 51) #[] #[]) W).mono ?_
    rintro e w' ⟨rfl, rfl⟩
    exact ⟨rfl, none, 0, [], rfl, Kd.C_nil _ _, List.Perm.refl _, List.Pairwise.nil, Below.refl _ _⟩
  · have hgl : g < W.heap.size := (Array.getElem?_eq_some_iff.1 hblk).1
    have hex : ∀ j, (hj : j < L.length) → ∃ x : Cx W g, x.call = L[j] ∧ (inner.drop (j * 3)).take 3 = encX x := by
      intro j hj
      obtain ⟨c0, c1, e0, rfl, c2, c3, rfl, rfl, V1, rfl, hra⟩ := hr.2 j L[j] (List.getElem?_eq_getElem hj)
      replace hra : kAc.R 24 W base (fun k => True ∧ some k ≠ v.ownBlock) V1 L[j].arcs := hra
      have hre := hra
      obtain ⟨A1, cp1, ev1⟩ := Kd.R_slice hra
      subst ev1
      refine ⟨⟨(L[j], A1, cp1), (Kd.R_reads' hra).2.1, fun W2 hW => ?_⟩, rfl, e0⟩
      have h2 : kAc.R 24 W2 base (fun k => True ∧ some k ≠ v.ownBlock) (.slice A1 L[j].arcs.length cp1) L[j].arcs := Kd.R_step hra (fun k hk hlt => hW k hlt (fun e => hk.2 (by rw [hv, e]; rfl)))
      exact (Kd.R_reads' h2).2.2
    obtain ⟨d, hd⟩ : ∃ d : Array (Cx W g), d = Array.ofFn (n := L.length) fun j => Classical.choose (hex j.1 j.2) := ⟨_, rfl⟩
    have hds : d.size = L.length := by rw [hd, Array.size_ofFn]
    have hdc : ∀ j, (hj : j < L.length) → (d[j]!).call = L[j] ∧ (inner.drop (j * 3)).take 3 = encX d[j]! := by
      intro j hj
      have e : d[j]! = Classical.choose (hex j hj) := by
        rw [getElem!_pos d j (by rw [hds]; exact hj)]
        simp only [hd, Array.getElem_ofFn]
      rw [e]
      exact Classical.choose_spec (hex j hj)
    have hH : HoldsK encX 3 W g 0 d := by
      intro t ht
      rw [size_flatK, hds] at ht
      have hj : t / 3 < L.length := by omega
      have h1 := (hdc (t / 3) hj).2
      have hget : cur[t]? = some ((flatK encX 3 d)[t]!) := by
        rw [get_flatK encX 3 d t (by rw [hds]; exact ht)]
        have h2 : inner[t]? = cur[t]? := by
          rw [← hct, List.getElem?_take_of_lt (show t < L.length * kCl.sz from ht), Array.getElem?_toList]
        rw [← h2]
        have h3 : (encX d[t / 3]!)[t % 3]? = inner[t]? := by
          rw [← h1, List.getElem?_take_of_lt (by omega), List.getElem?_drop]
          congr 1
          omega
        rw [← h3]
        have hl : t % 3 < (encX d[t / 3]!).length := by rw [encX_len]; omega
        rw [List.getElem?_eq_getElem hl, getElem!_pos (encX d[t / 3]!) (t % 3) hl]
      rw [Nat.zero_add]
      exact ⟨blk_at hblk hget, blk_frozen hblk t⟩
    have hn : 0 < L.length ∨ L = [] := by cases L with
      | nil => exact .inr rfl
      | cons x t => exact .inl (by simp)
    have eg : ∀ args w, (callFunc 51 args).run Try.prog w = .ok (.enter 51 args) w := enters_of Try.func51 (by kernel_rfl) rfl
    have hcon := Go.Proofs.AnyQ.slices_SortFunc lSort 3 Try.isAgg34 Try.sizeOf34 encX encX_len encX_one cfX swoX 51 #[] g 0 cap d W eg (cmpLaysX 0 d.size) hH hgl (by rw [hds]; omega)
    change Calls Try.prog 50 _ _ _ at hcon
    rw [hds] at hcon
    rw [hv]
    refine hcon.mono ?_
    rintro e w' ⟨rfl, d', n, os, hperm, hsort, rfl⟩
    have hds' : d'.size = d.size := hperm.1
    have hp : d'.toList.Perm d.toList := by
      have h1 := hperm.2.2
      rw [← hds] at h1
      rw [show d.extract 0 d.size = d by simp, show d'.extract 0 d.size = d' by rw [← hds']; simp] at h1
      exact h1
    have hdl : d.toList.map Cx.call = L := by
      refine List.ext_getElem (by simp [hds]) fun j h1 h2 => ?_
      rw [List.getElem_map, Array.getElem_toList, ← (hdc j h2).1, getElem!_pos]
    have hPl : (d'.toList.map Cx.call).length = L.length := by simp [hds', hds]
    refine ⟨rfl, some ⟨g, 0, none⟩, cap, d'.toList.map Cx.call, by rw [hPl], ?_, ?_, ?_, below_sort hg n _ os hbase⟩
    · have hH' : HoldsK encX 3 (putRowK encX 3 (Go.Sort.ahead W n) g 0 d') g 0 d' := holds_putRow id (Go.Sort.ahead W n) g 0 (flatK encX 3 d) (flatK encX 3 d') (holds_ahead id W n g 0 _ hH) (by simp [hds'])
      refine ⟨rfl, by rw [hPl]; omega, fun _ => ⟨⟨g, 0, none⟩, rfl, fun j p hj => ?_⟩⟩
      obtain ⟨hjl, hjp⟩ := List.getElem?_eq_some_iff.1 hj
      have hjd : j < d'.size := by simpa using hjl
      have hpe : p = (d'[j]!).call := by rw [← hjp, List.getElem_map, Array.getElem_toList, getElem!_pos]
      have hC : kAc.C (sortWorldK encX 3 W g 0 n d' os) (d'[j]!).1.2.1 (d'[j]!).1.1.arcs.length (d'[j]!).1.1.arcs := (d'[j]!).2.2 _ (sort_heap W n _ os)
      subst hpe
      refine ⟨encX d'[j]!, rfl, ⟨[.string (d'[j]!).1.1.src], _, rfl, rfl, [.string (d'[j]!).1.1.dst], _, rfl, rfl, _, _, rfl, (d'[j]!).2.1, hC⟩, fun i u hu => ?_⟩
      have hi : i < 3 := by
        have := (List.getElem?_eq_some_iff.1 hu).1
        rwa [encX_len] at this
      have h5 := (Go.Sort.HoldsK.cell hH' hjd hi).1
      have h6 : (encX d'[j]!)[i]! = u := by
        obtain ⟨q1, q2⟩ := List.getElem?_eq_some_iff.1 hu
        rw [getElem!_pos (encX d'[j]!) i q1, q2]
      rw [h6] at h5
      have h7 : ((⟨g, 0, none⟩ : Addr).add (j * 3 + i)) = ⟨g, 0 + j * 3 + i, none⟩ := by simp [Addr.add]; omega
      show (grow (putRowK encX 3 (Go.Sort.ahead W n) g 0 d') os).cell? ((⟨g, 0, none⟩ : Addr).add (j * 3 + i)) = some u
      rw [h7]
      have hbg : g < (putRowK encX 3 (Go.Sort.ahead W n) g 0 d').heap.size := by
        show g < (putRow id (Go.Sort.ahead W n) g 0 _).heap.size
        rw [size_putRow]
        exact hgl
      rw [← h5]
      show World.cell? _ _ = World.cell? _ _
      unfold World.cell?
      have h8 : (grow (putRowK encX 3 (Go.Sort.ahead W n) g 0 d') os).heap[g]? = (putRowK encX 3 (Go.Sort.ahead W n) g 0 d').heap[g]? := by
        show ((putRowK encX 3 (Go.Sort.ahead W n) g 0 d').heap ++ os)[g]? = _
        rw [Array.getElem?_append, if_pos hbg]
      dsimp only
      rw [h8]
    · rw [← hdl]
      exact hp.map Cx.call
    · rw [List.pairwise_iff_getElem]
      intro i j hi hj hij
      have hi' : i < d'.size := by simpa using hi
      have hj' : j < d'.size := by simpa using hj
      have h1 := hsort i j (Nat.zero_le _) hij (by rw [← hds, ← hds']; exact hj')
      rw [ltX] at h1
      rw [List.getElem_map, List.getElem_map, Array.getElem_toList, Array.getElem_toList]
      rw [getElem!_pos d' j hj', getElem!_pos d' i hi'] at h1
      exact h1
end
section

abbrev gcalls (a : List Mk) : List Cl := a.map fun m => callG m.1
section
variable {A : Option Addr} {cp : Nat} {l : List Cl} {w : World} (h : kCl.C w A l.length l) (hs : ∀ c ∈ l, c.src.size ≤ maxLen ∧ c.dst.size ≤ maxLen ∧ c.arcs.length ≤ 1000000) (hl : l.length ≤ 9223372036854775807)
include h hs hl
set_option maxHeartbeats 4000000 in
set_option maxRecDepth 100000 in
theorem pclos_some {a : List Mk} (hx : closedF l 4 2 = (some a, 0)) (hal : a.length ≤ 2000) : Calls Try.prog 26 #[.slice A l.length cp] w fun e w' => ∃ A' cp' P, e = .returned (.tuple #[.slice A' P.length cp', .int .i64 0]) ∧ kCl.C w' A' P.length P ∧ P.Perm (gcalls a) ∧ (P.Pairwise fun x y => lssC y x = false) ∧ Below w.heap.size w w' := by
  have HC := Aside0.mk (closed_some (cp := cp) h hs hl hx)
  have HAL := Aside0.mk hal
  clear hx h hs hl hal
  obtain ⟨zc, hzc⟩ : ∃ zc, zc = (cG ⟨.empty, .empty, List.replicate 36 0⟩).push (.slice none 0 0) := ⟨_, rfl⟩
  have HZR8 := Aside0.mk (fun w => show (zeroValue 83).run Try.prog w = .ok (.agg zc) w from by rw [hzc]; exact zero83_run w)
  have HZS8 := Aside0.mk (show zc.size = 39 by rw [hzc]; simp [cG])
  clear hzc
  go_enter Try.func26, Try.ntmps26
  go_wp2_with (go_at_call 39; refine HC.out.mono ?_; rintro e w5 ⟨A5, c5, rfl, hc5, hb5⟩; have HC5 := Aside0.mk hc5; have HB5 := Aside0.mk hb5; clear hb5 hc5)
  go_loopg [6, 19] a.length (fun kq v6 v19 w' => ∃ (i : Nat), v19 = .int .i64 (i : Int) ∧ Aside0 (kq + i = a.length) ∧ Aside0 (Below w5.heap.size w5 w') ∧ Aside0 (kCl.R 34 w' w5.heap.size (fun _ => True) v6 (gcalls (a.take i))))
  case atStart => exact ⟨0, rfl, ⟨rfl⟩, ⟨Below.refl _ _⟩, ⟨Kd.R_nil _ _ _ _ _⟩⟩
  case round =>
    obtain ⟨i, rfl, HK, HB, HV⟩ := hrel
    by_cases hlt : i < a.length
    · have hdx : decide ((i : Int) < (a.length : Int)) = true := decide_eq_true (by omega)
      have hi0 : (i : Int) < (a.length : Int) := by omega
      have hib : wrap64 ((i : Int) + 1) = (i : Int) + 1 := by have := HAL.out; unfold wrap64; omega
      have HLT := Aside0.mk hlt
      obtain ⟨ad, v, e, ⟨hg, h1v⟩, hc⟩ := mk_get (Kd.C_below HC5.out HB.out) i hlt
      have HTK := Aside0.mk (show gcalls (a.take (i + 1)) = gcalls (a.take i) ++ [callG a[i].1] by rw [gcalls, List.take_succ_eq_append_getElem hlt, List.map_append]; rfl)
      have HLL := Aside0.mk (show (gcalls (a.take i)).length ≤ 2000 by rw [List.length_map, List.length_take]; have := HAL.out; omega)
      have HCL := Aside0.mk (fun W => call_calls a[i].1 hg.tab W)
      obtain ⟨LL, hLL⟩ : ∃ x, x = gcalls (a.take i) := ⟨_, rfl⟩
      rw [← hLL] at HTK HLL HV
      obtain ⟨cm, hcm⟩ : ∃ c, c = cM a[i].1 v := ⟨_, rfl⟩
      rw [← hcm] at hc
      have HCC := Aside0.mk hc
      have HMS := Aside0.mk (show cm.size = 39 by rw [hcm]; exact cM_size hg v)
      obtain ⟨cgm, hcgm⟩ : ∃ c, c = cG a[i].1 := ⟨_, rfl⟩
      have HGMS := Aside0.mk (show cgm.size = 38 by rw [hcgm]; exact cG_size hg.tab)
      have HATM := Aside0.mk (fun j u (h : cgm[j]? = some u) => show cm[0 + j]? = some u from by rw [hcm]; exact cM_at j u (by rw [← hcgm]; exact h))
      have HM1 := Aside0.mk (show cm.all (·.oneCell') = true by rw [hcm]; unfold cM; rw [Array.all_push, cG_one, h1v]; rfl)
      unfold vG at HCL
      rw [← hcgm] at HCL
      obtain ⟨cl, hcl⟩ : ∃ c, c = callG a[i].1 := ⟨_, rfl⟩
      rw [← hcl] at HTK
      replace HCL : Aside0 (∀ W : World, Calls Try.prog 47 #[.agg cgm] W fun e w' => ∃ v, e = .returned (.agg #[.string cl.src, .string cl.dst, v]) ∧ kAc.R 24 w' W.heap.size (fun _ => True) v cl.arcs ∧ Below W.heap.size W w') := ⟨by rw [hcl]; exact HCL.out⟩
      subst e
      clear hc hg h1v hcm hcgm hcl hLL hlt
      go_wp2_with (first | ((with_reducible refine gate_load (t := 83) (x := .tmp 21) rfl ?_); refine run_law (by rfl) (.agg cm) (cells_run (ty := 83) (x := .tmp 21) (ad := ad.add (i * 39)) (cs := cm) ?h1 ?h2 ?hs ?h3 Try.underlying83 ?h4) ?_; (case h1 => rfl); (case h2 => rfl); (case hs => exact fun j v hv => by rw [Addr.add_add]; exact HCC.out j v hv); (case h3 => rfl); (case h4 => rw [HMS.out]; kernel_rfl)) | ((with_reducible refine gate_alloc (t := 83) rfl ?_); refine alloc_zero rfl rfl zc HZR8.out ?_) | ((with_reducible refine gate_store (t := 83) (p := 8) rfl ?_); refine store_last rfl rfl rfl _ 83 zc cm (by rfl) (by rfl) rfl (by rw [HMS.out]; kernel_rfl) (HZS8.out.trans HMS.out.symm) HM1.out ?_) | ((with_reducible refine gate_load (t := 81) (x := .tmp 24) rfl ?_); refine run_law (by rfl) (.agg cgm) (part_run (ty := 81) (x := .tmp 24) (b := wr.heap.size) (f := 0) (t := 83) (all := cm) (cs := cgm) ?h1 ?h2 (blk_new wr (.cells cm 83)) HATM.out ?h3 Try.underlying81 ?h4) ?_; (case h1 => rfl); (case h2 => rfl); (case h3 => rfl); (case h4 => rw [HGMS.out]; kernel_rfl)) | (go_at_call 47; refine (HCL.out _).mono ?_; rintro e w6 ⟨v6, rfl, hr6, hb6⟩; obtain ⟨A6, c6, ev6⟩ := Kd.R_slice hr6; subst ev6; have HB6 := Aside0.mk (below_step HB.out (below_step (below_alloc (Below.refl _ _) (.cells cm 83)) hb6)); have HV6 := Aside0.mk (Kd.R_below HV.out (below_step (below_alloc (Below.refl _ _) (.cells cm 83)) hb6)); have HR6 := Aside0.mk (show kAc.R 24 w6 w5.heap.size (fun _ => True) (.slice A6 cl.arcs.length c6) cl.arcs from Kd.R_lower hr6 (below_step HB.out (below_alloc (Below.refl _ _) (.cells cm 83))).size); clear hb6 hr6) | (at_builtin; go_loud (refine Kd.R_append kCl (w0 := w5) (W := w6) w5.heap.size rfl (.tmp 23) (.tmp 27) 22 34 (.agg #[.string .empty, .string .empty, .slice none 0 0]) 56 rfl Try.underlying22 info34 rfl (Nat.succ_pos 2) (by omega) u6 LL cl [.string cl.src, .string cl.dst, .slice A6 cl.arcs.length c6] (fun _ => True) (fun k => True ∧ some k ≠ u6.ownBlock) rfl rfl (call_M (Kd.R_apart' HR6.out (Kd.R_typed HV6.out) (by decide))) (fun _ hk => hk) (fun _ _ => trivial) HV6.out HB6.out HB6.out.size (by have := HLL.out; omega) ?_; intro v9 w9 hr1 hb1 hg1 hat1; have HV9 := Aside0.mk hr1; have HB9 := Aside0.mk hb1; clear hr1 hb1 hg1 hat1)))
      go_roundg (a.length - i - 1)
      case measure => have := HK.out; omega
      case rel => exact ⟨i + 1, by go_num, ⟨by have := HK.out; have := HLT.out; omega⟩, HB9, ⟨by rw [HTK.out]; exact HV9.out⟩⟩
    · have hdx : decide ((i : Int) < (a.length : Int)) = false := decide_eq_false (by omega)
      have HVF := Aside0.mk (show kCl.R 34 wr w5.heap.size (fun _ => True) u6 (gcalls a) by
        have h1 := HV.out
        rw [List.take_of_length_le (by omega)] at h1
        exact h1)
      have HLL := Aside0.mk (show (gcalls a).length ≤ 1000000 by rw [List.length_map]; have := HAL.out; omega)
      clear HV
      go_wp2_with (go_at_call 50; refine (sort_calls HVF.out HLL.out HB.out.size).mono ?_; rintro e w8 ⟨rfl, A8, c8, P, ev, hC8, hperm, hsrt, hb8⟩; have HC8 := Aside0.mk hC8; have HPE := Aside0.mk hperm; have HSR := Aside0.mk hsrt; have HB8 := Aside0.mk (below_step HB5.out (Below.trans HB.out hb8)); clear hC8 hperm hsrt hb8 HVF; subst ev)
      go_ret2
      exact ⟨A8, c8, P, rfl, HC8.out, HPE.out, HSR.out, HB8.out⟩
theorem pclos_none {x : Int} (hx : closedF l 4 2 = (none, x)) (hne : x ≠ 0) : Calls Try.prog 26 #[.slice A l.length cp] w fun e w' => e = .returned (.tuple #[.slice none 0 0, .int .i64 x]) ∧ Below w.heap.size w w' := by
  have HC := Aside0.mk (closed_none (cp := cp) h hs hl hx)
  have hn : (x != 0) = true := by simpa using hne
  clear hx h hs hl
  go_enter Try.func26, Try.ntmps26
  go_wp2_with (go_at_call 39; refine HC.out.mono ?_; rintro e w5 ⟨rfl, hb5⟩; have HB5 := Aside0.mk hb5; clear hb5)
  go_ret2
  exact ⟨rfl, HB5.out⟩
end
set_option maxHeartbeats 4000000 in
set_option maxRecDepth 100000 in
/-- Two equal rows of calls are told equal. -/
theorem eqall_same (A B : Option Addr) (p q : Nat) (L : List Cl) (w : World) (ha : kCl.C w A L.length L) (hb : kCl.C w B L.length L) : Calls Try.prog 28 #[.slice A L.length p, .slice B L.length q] w fun e w' => e = .returned (.bool true) ∧ Below w.heap.size w w' := by
  have HCA := Aside0.mk ha
  have HCB := Aside0.mk hb
  have HLL := Aside0.mk (show L.length ≤ 9223372036854775807 from ha.2.1)
  have hne : ((L.length : Int) != (L.length : Int)) = false := by simp
  have hne2 : (L.length != L.length) = false := by simp
  clear ha hb
  go_enter Try.func28, Try.ntmps28
  go_wp2
  clear hne hne2
  go_loopg [5] L.length (fun kq v5 w' => ∃ (i : Nat), v5 = .int .i64 (i : Int) ∧ Aside0 (kq + i = L.length) ∧ Aside0 (Below w.heap.size w w'))
  case atStart => exact ⟨0, rfl, ⟨rfl⟩, ⟨Below.refl _ _⟩⟩
  case round =>
    obtain ⟨i, rfl, HK, HB⟩ := hrel
    by_cases hlt : i < L.length
    · have hdx : decide ((i : Int) < (L.length : Int)) = true := decide_eq_true (by omega)
      have hi0 : (i : Int) < (L.length : Int) := by omega
      have hib : wrap64 ((i : Int) + 1) = (i : Int) + 1 := by have := HLL.out; unfold wrap64; omega
      have HLT := Aside0.mk hlt
      obtain ⟨ad, X, xc, ea, hxc, hx, hqa⟩ := cl_get2 (Kd.C_below HCA.out HB.out) i hlt
      obtain ⟨bd, Y, yc, eb, hyc, hy, hqb⟩ := cl_get2 (Kd.C_below HCB.out HB.out) i hlt
      have HEQ := Aside0.mk (fun (W : World) (h : Below wr.heap.size wr W) => show Calls Try.prog 19 #[.agg #[.string L[i].src, .string L[i].dst, .slice X L[i].arcs.length xc], .agg #[.string L[i].src, .string L[i].dst, .slice Y L[i].arcs.length yc]] W fun e w' => e = .returned (.bool true) ∧ Below W.heap.size W w' from by
        have h1 := eq_calls X Y xc yc L[i] L[i] W (Kd.C_below hx h) (Kd.C_below hy h)
        rw [show eqC L[i] L[i] = true from by rw [eqC_iff]; exact decide_eq_true rfl] at h1
        exact h1)
      have HQA := Aside0.mk hqa
      have HQB := Aside0.mk hqb
      clear hxc hx hyc hy hqa hqb
      generalize L[i] = c at HEQ HQA HQB
      subst ea
      subst eb
      go_wp2
      refine start_ (n := 10) (S := fun w' => Below wr.heap.size wr w') (ds := []) #[false, false, false, false, false, false, false, false, false, false] (by kernel_rfl) rfl rfl (below_drew1 (Below.refl _ _)) (fun hHeld => ?_)
      refine pure_ (i := 0) (N := some 17) (v := ?_) (a' := ?_) #[true, false, false, false, false, false, false, false, false, false] rfl rfl (by kernel_rfl) (fun _ _ _ h => h) (Or.inl ⟨by rfl, ?_⟩) ?_ ?_
      rotate_left
      · intro w'
        go_simp
        with_reducible rfl
      rotate_left
      · simp only [Act.put, List.setIfInBounds_toArray, List.set_cons_zero, List.set_cons_succ, i64_w, i32_w]
        rfl
      refine pure_ (i := 1) (N := some 18) (v := ?_) (a' := ?_) #[true, true, false, false, false, false, false, false, false, false] rfl rfl (by kernel_rfl) (fun _ _ _ h => h) (Or.inl ⟨by rfl, ?_⟩) ?_ ?_
      rotate_left
      · intro w'
        go_simp
        with_reducible rfl
      rotate_left
      · simp only [Act.put, List.setIfInBounds_toArray, List.set_cons_zero, List.set_cons_succ, i64_w, i32_w]
        rfl
      refine pure_ (i := 2) (N := some 19) (v := ?_) (a' := ?_) #[true, true, true, false, false, false, false, false, false, false] rfl rfl (by kernel_rfl) (fun _ _ _ h => h) (Or.inl ⟨by rfl, ?_⟩) ?_ ?_
      rotate_left
      · intro w'
        go_simp
        with_reducible rfl
      rotate_left
      · simp only [Act.put, List.setIfInBounds_toArray, List.set_cons_zero, List.set_cons_succ, i64_w, i32_w]
        rfl
      refine take_ (i := 3) (N := some 20) (v := ?_) (a' := ?_) #[true, true, true, true, false, false, false, false, false, false] rfl rfl (by kernel_rfl) (fun _ _ _ h => h) (Or.inl ⟨by rfl, ?_⟩) hHeld ?_ ?_
      rotate_left
      · rintro w' s0
        obtain ⟨q0, q1, q2⟩ := HQA.out w' s0
        go_simp
        with_reducible rfl
      rotate_left
      · simp only [Act.put, List.setIfInBounds_toArray, List.set_cons_zero, List.set_cons_succ, i64_w, i32_w]
        rfl
      refine pure_ (i := 4) (N := some 21) (v := ?_) (a' := ?_) #[true, true, true, true, true, false, false, false, false, false] rfl rfl (by kernel_rfl) (fun _ _ _ h => h) (Or.inl ⟨by rfl, ?_⟩) ?_ ?_
      rotate_left
      · intro w'
        go_simp
        with_reducible rfl
      rotate_left
      · simp only [Act.put, List.setIfInBounds_toArray, List.set_cons_zero, List.set_cons_succ, i64_w, i32_w]
        rfl
      refine pure_ (i := 5) (N := some 22) (v := ?_) (a' := ?_) #[true, true, true, true, true, true, false, false, false, false] rfl rfl (by kernel_rfl) (fun _ _ _ h => h) (Or.inl ⟨by rfl, ?_⟩) ?_ ?_
      rotate_left
      · intro w'
        go_simp
        with_reducible rfl
      rotate_left
      · simp only [Act.put, List.setIfInBounds_toArray, List.set_cons_zero, List.set_cons_succ, i64_w, i32_w]
        rfl
      refine pure_ (i := 6) (N := some 23) (v := ?_) (a' := ?_) #[true, true, true, true, true, true, true, false, false, false] rfl rfl (by kernel_rfl) (fun _ _ _ h => h) (Or.inl ⟨by rfl, ?_⟩) ?_ ?_
      rotate_left
      · intro w'
        go_simp
        with_reducible rfl
      rotate_left
      · simp only [Act.put, List.setIfInBounds_toArray, List.set_cons_zero, List.set_cons_succ, i64_w, i32_w]
        rfl
      refine take_ (i := 7) (N := some 24) (v := ?_) (a' := ?_) #[true, true, true, true, true, true, true, true, false, false] rfl rfl (by kernel_rfl) (fun _ _ _ h => h) (Or.inl ⟨by rfl, ?_⟩) hHeld ?_ ?_
      rotate_left
      · rintro w' s0
        obtain ⟨q0, q1, q2⟩ := HQB.out w' s0
        go_simp
        with_reducible rfl
      rotate_left
      · simp only [Act.put, List.setIfInBounds_toArray, List.set_cons_zero, List.set_cons_succ, i64_w, i32_w]
        rfl
      refine one_ (i := 8) (N := some 25) #[true, true, true, true, true, true, true, true, true, false] rfl rfl (by kernel_rfl) (by decide) (fun K hK => ?_)
      refine goes_ Try.func19 (by kernel_rfl) rfl #[.agg #[.string c.src, .string c.dst, .slice X c.arcs.length xc], .agg #[.string c.src, .string c.dst, .slice Y c.arcs.length yc]] (by rfl) rfl rfl (by (try simp only [List.map_toArray, List.map_cons, List.map_nil]); first | done | rfl) ?_
      refine (HEQ.out _ hHeld).mono ?_
      rintro e2 w3 ⟨rfl, hb3⟩
      refine ⟨_, rfl, ?_⟩
      have hB := below_step hHeld hb3
      refine hK.out _ _ hB (fun _ => ?_)
      clear hK K hHeld hb3
      have hHeld := hB
      clear hB
      refine norm_ (a' := ?_) ?_ ?_
      rotate_left
      · show Act.put _ (some 25) _ = _
        simp only [Act.put, List.setIfInBounds_toArray, List.set_cons_zero, List.set_cons_succ, i64_w, i32_w]
        rfl
      refine pure_ (i := 9) (N := some 26) (v := ?_) (a' := ?_) #[true, true, true, true, true, true, true, true, true, true] rfl rfl (by kernel_rfl) (fun _ _ _ h => h) (Or.inl ⟨by rfl, ?_⟩) ?_ ?_
      rotate_left
      · intro w'
        go_simp
        with_reducible rfl
      rotate_left
      · simp only [Act.put, List.setIfInBounds_toArray, List.set_cons_zero, List.set_cons_succ, i64_w, i32_w]
        rfl
      refine done_ (by kernel_rfl) ?_
      have HB2 := Aside0.mk (below_step HB.out hHeld)
      clear hHeld
      go_wp2
      go_roundg (L.length - i - 1)
      case measure => have := HK.out; omega
      case rel => exact ⟨i + 1, by go_num, ⟨by have := HK.out; have := HLT.out; omega⟩, HB2⟩
    · have hdx : decide ((i : Int) < (L.length : Int)) = false := decide_eq_false (by omega)
      go_wp2
      go_ret
      exact ⟨rfl, HB.out⟩
/-- Two rows in strict order with the same members are one. -/
theorem ord_ext : ∀ {a b : List Cl}, Ord a → Ord b → (∀ c, c ∈ a ↔ c ∈ b) → a = b
  | [], [], _, _, _ => rfl
  | [], y :: b, _, _, h => by cases (h y).2 (List.mem_cons_self ..)
  | x :: a, [], _, _, h => by cases (h x).1 (List.mem_cons_self ..)
  | x :: a, y :: b, ha, hb, h => by
    have ha' := List.pairwise_cons.1 ha
    have hb' := List.pairwise_cons.1 hb
    have e : x = y := by
      rcases List.mem_cons.1 ((h x).1 (List.mem_cons_self ..)) with e | m1
      · exact e
      · rcases List.mem_cons.1 ((h y).2 (List.mem_cons_self ..)) with e | m2
        · exact e.symm
        · have h1 := ls_trans (hb'.1 x m1) (ha'.1 y m2)
          rw [ls_irr] at h1
          cases h1
    subst e
    have nx : ∀ {l : List Cl}, (∀ z ∈ l, lssC x z = true) → x ∉ l := fun hl hm => by
      have h1 := hl x hm
      rw [ls_irr] at h1
      cases h1
    rw [ord_ext ha'.2 hb'.2 fun c => by
      have h1 := h c
      constructor
      · intro hc
        rcases List.mem_cons.1 (h1.1 (List.mem_cons_of_mem _ hc)) with rfl | m
        · exact absurd hc (nx ha'.1)
        · exact m
      · intro hc
        rcases List.mem_cons.1 (h1.2 (List.mem_cons_of_mem _ hc)) with rfl | m
        · exact absurd hc (nx hb'.1)
        · exact m]
/-- A sorted permutation of calls that differ is in strict order. -/
theorem ord_of {P L : List Cl} (hp : P.Perm L) (hn : L.Pairwise (· ≠ ·)) (hs : P.Pairwise fun x y => lssC y x = false) : Ord P := by
  have hd : P.Pairwise (· ≠ ·) := (hp.pairwise_iff (fun {x y} (h : x ≠ y) => Ne.symm h)).2 hn
  refine List.Pairwise.imp₂ ?_ hs hd
  intro x y h1 h2
  cases h3 : lssC x y with
  | true => rfl
  | false => exact absurd (ls_tri h3 h1) h2
theorem gcalls_diff {l : List Cl} {a : List Mk} (hx : closedF l 4 2 = (some a, 0)) : (gcalls a).Pairwise (· ≠ ·) := by
  obtain ⟨first, hr, hq⟩ := closedF_some hx
  have ht := closed_tabs hx
  rw [List.pairwise_map]
  refine List.Pairwise.imp_of_mem ?_ (closedQ_some hq).1.diff
  intro m k hm hk hne e
  exact hne (callG_inj (ht m hm) (ht k hk) e)
/-- The program's closure is the reference's. -/
theorem clos_same {l : List Cl} {a : List Mk} (hx : closedF l 4 2 = (some a, 0)) {P S : List Cl} (hp : P.Perm (gcalls a)) (hs : P.Pairwise fun x y => lssC y x = false) (hS : Ord S) (hm : ∀ c, c ∈ S ↔ ∃ m ∈ a, c = callG m.1) : P = S := by
  refine ord_ext (ord_of hp (gcalls_diff hx) hs) hS fun c => ?_
  rw [hp.mem_iff, hm, List.mem_map]
  exact ⟨fun ⟨m, h1, h2⟩ => ⟨m, h1, h2.symm⟩, fun ⟨m, h1, h2⟩ => ⟨m, h1, h2.symm⟩⟩
end
section

theorem rclos_good {A : Option Addr} {cp : Nat} {l : List Cl} {w : World} {a : List Mk} (hl : kCl.C w A l.length l) (hlen : l.length ≤ 1000000) (hx : closedF l 4 2 = (some a, 0)) : Calls Try.prog 27 #[.slice A l.length cp] w (ROut l a w) := by
  refine (rclosure_calls A cp l w hl hlen).mono ?_
  rintro e w' (⟨b, h1, h2⟩ | ⟨x, h1, _⟩)
  · rw [hx] at h1
    simp only [Prod.mk.injEq, Option.some.injEq, and_true] at h1
    rw [h1]
    exact h2
  · rw [hx] at h1
    cases h1
theorem rclos_bad {A : Option Addr} {cp : Nat} {l : List Cl} {w : World} {x : Int} (hl : kCl.C w A l.length l) (hlen : l.length ≤ 1000000) (hx : closedF l 4 2 = (none, x)) : Calls Try.prog 27 #[.slice A l.length cp] w fun e w' => e = .returned (.tuple #[.slice none 0 0, .int .i64 x]) ∧ Below w.heap.size w w' := by
  refine (rclosure_calls A cp l w hl hlen).mono ?_
  rintro e w' (⟨b, h1, h2⟩ | ⟨y, h1, h2, h3, h4⟩)
  · rw [hx] at h1
    cases h1
  · rw [hx] at h1
    simp only [Prod.mk.injEq, true_and] at h1
    rw [h1]
    exact ⟨h3, h4⟩
set_option maxHeartbeats 4000000 in
set_option maxRecDepth 100000 in
/-- No closure. -/
theorem closes_err (A : Option Addr) (cp : Nat) (l : List Cl) (w : World) (h : kCl.C w A l.length l) (hbig : bigL l 70 = false) (hgo : ¬ (12 < l.length ∧ l.length ≤ 60)) {x : Int} (hne : x ≠ 0) (hx : closedF l 4 2 = (none, x)) :
    Calls Try.prog 8 #[.slice A l.length cp] w fun e w' => e = .returned (.bool true) ∧ Below w.heap.size w w' := by
  have hsm := small70 hbig
  have HBG := Aside0.mk (big_calls A cp l 70 w h (by omega))
  rw [hbig] at HBG
  have HT := Aside0.mk (fun (W : World) (hb : Below w.heap.size w W) => pclos_none (cp := cp) (Kd.C_below h hb) hsm.2 (by omega) hx hne)
  have HR := Aside0.mk (fun (W : World) (hb : Below w.heap.size w W) => rclos_bad (cp := cp) (Kd.C_below h hb) (by omega) hx)
  have e2 : (x == x) = true := by simp
  by_cases h12 : 12 < l.length
  · have d1 : decide ((12 : Int) < (l.length : Int)) = true := decide_eq_true (by omega)
    have d3 : ¬ l.length ≤ 60 := fun h60 => hgo ⟨h12, h60⟩
    have d2 : decide ((l.length : Int) ≤ 60) = false := decide_eq_false (by omega)
    clear hsm hbig hgo hx hne h
    go_enter Try.func8, Try.ntmps8
    go_wp2_with (first | (go_at_call 11; refine HBG.out.mono ?_; rintro e w1 ⟨rfl, hb1⟩; have HB1 := Aside0.mk hb1; clear hb1) | (go_at_call 26; refine (HT.out _ HB1.out).mono ?_; rintro e w2 ⟨rfl, hb2⟩; have HB2 := Aside0.mk (below_step HB1.out hb2); clear hb2) | (go_at_call 27; refine (HR.out _ HB2.out).mono ?_; rintro e w3 ⟨rfl, hb3⟩; have HB3 := Aside0.mk (below_step HB2.out hb3); clear hb3) | (go_at_call 28; refine (eqall_same none none 0 0 [] _ (Kd.C_nil _ _) (Kd.C_nil _ _)).mono ?_; rintro e w4 ⟨rfl, hb4⟩; have HB4 := Aside0.mk (below_step HB3.out hb4); clear hb4) | (go_at_call 12; refine (awake_calls _).mono ?_; rintro e w5 ⟨rfl, hb5⟩; have HB5 := Aside0.mk (below_step HB4.out hb5); clear hb5))
    go_ret
    exact ⟨rfl, HB5.out⟩
  · have d1 : decide ((12 : Int) < (l.length : Int)) = false := decide_eq_false (by omega)
    clear hsm hbig hgo hx hne h
    go_enter Try.func8, Try.ntmps8
    go_wp2_with (first | (go_at_call 11; refine HBG.out.mono ?_; rintro e w1 ⟨rfl, hb1⟩; have HB1 := Aside0.mk hb1; clear hb1) | (go_at_call 26; refine (HT.out _ HB1.out).mono ?_; rintro e w2 ⟨rfl, hb2⟩; have HB2 := Aside0.mk (below_step HB1.out hb2); clear hb2) | (go_at_call 27; refine (HR.out _ HB2.out).mono ?_; rintro e w3 ⟨rfl, hb3⟩; have HB3 := Aside0.mk (below_step HB2.out hb3); clear hb3) | (go_at_call 28; refine (eqall_same none none 0 0 [] _ (Kd.C_nil _ _) (Kd.C_nil _ _)).mono ?_; rintro e w4 ⟨rfl, hb4⟩; have HB4 := Aside0.mk (below_step HB3.out hb4); clear hb4) | (go_at_call 12; refine (awake_calls _).mono ?_; rintro e w5 ⟨rfl, hb5⟩; have HB5 := Aside0.mk (below_step HB4.out hb5); clear hb5))
    go_ret
    exact ⟨rfl, HB5.out⟩
set_option maxHeartbeats 4000000 in
set_option maxRecDepth 100000 in
theorem closes_law (A : Option Addr) (cp : Nat) (l : List Cl) (w : World) (h : kCl.C w A l.length l) (hl : l.length ≤ 9223372036854775807) :
    Calls Try.prog 8 #[.slice A l.length cp] w fun e w' => e = .returned (.bool true) ∧ Below w.heap.size w w' := by
  have HBG := Aside0.mk (big_calls A cp l 70 w h hl)
  cases hbig : bigL l 70 with
  | true =>
    rw [hbig] at HBG
    clear hbig h hl
    go_enter Try.func8, Try.ntmps8
    go_wp2_with (first | (go_at_call 11; refine HBG.out.mono ?_; rintro e w1 ⟨rfl, hb1⟩; have HB1 := Aside0.mk hb1; clear hb1) | (go_at_call 12; refine (awake_calls _).mono ?_; rintro e w5 ⟨rfl, hb5⟩; have HB5 := Aside0.mk (below_step HB1.out hb5); clear hb5))
    go_ret
    exact ⟨rfl, HB5.out⟩
  | false =>
  rw [hbig] at HBG
  by_cases hgo : 12 < l.length ∧ l.length ≤ 60
  · have h12 := hgo.1
    have h60 := hgo.2
    have d1 : decide ((12 : Int) < (l.length : Int)) = true := decide_eq_true (by omega)
    have d2 : decide ((l.length : Int) ≤ 60) = true := decide_eq_true (by omega)
    clear hgo hbig h hl
    go_enter Try.func8, Try.ntmps8
    go_wp2_with (first | (go_at_call 11; refine HBG.out.mono ?_; rintro e w1 ⟨rfl, hb1⟩; have HB1 := Aside0.mk hb1; clear hb1) | (go_at_call 12; refine (awake_calls _).mono ?_; rintro e w5 ⟨rfl, hb5⟩; have HB5 := Aside0.mk (below_step HB1.out hb5); clear hb5))
    go_ret
    exact ⟨rfl, HB5.out⟩
  · rcases closedF_cases l with ⟨a, hx, hal⟩ | hx | hx
    · have hsm := small70 hbig
      have h12 : ¬ 12 < l.length := fun h12 => by
        have h60 : 60 < l.length := by omega
        unfold closedF at hx
        rw [if_pos h60] at hx
        cases hx
      have d1 : decide ((12 : Int) < (l.length : Int)) = false := decide_eq_false (by omega)
      have HT := Aside0.mk (fun (W : World) (hb : Below w.heap.size w W) => pclos_some (cp := cp) (Kd.C_below h hb) hsm.2 hl hx hal)
      have HR := Aside0.mk (fun (W : World) (hb : Below w.heap.size w W) => rclos_good (cp := cp) (Kd.C_below h hb) (by omega) hx)
      have HX := Aside0.mk hx
      clear hsm hbig hgo hx hal h hl
      unfold ROut at HR
      go_enter Try.func8, Try.ntmps8
      go_wp2_with (first | (go_at_call 11; refine HBG.out.mono ?_; rintro e w1 ⟨rfl, hb1⟩; have HB1 := Aside0.mk hb1; clear hb1) | (go_at_call 26; refine (HT.out _ HB1.out).mono ?_; rintro e w2 ⟨A2, c2, P, rfl, hc2, hp2, hs2, hb2⟩; have HB2 := Aside0.mk (below_step HB1.out hb2); have HC2 := Aside0.mk hc2; have HP2 := Aside0.mk hp2; have HS2 := Aside0.mk hs2; clear hb2 hc2 hp2 hs2) | (go_at_call 27; refine (HR.out _ HB2.out).mono ?_; rintro e w3 ⟨A3, c3, S, rfl, hc3, _, hm3, ho3, hb3⟩; have hPS := clos_same HX.out HP2.out HS2.out ho3 hm3; subst hPS; have HB3 := Aside0.mk (below_step HB2.out hb3); have HC3 := Aside0.mk hc3; have HC4 := Aside0.mk (Kd.C_below HC2.out hb3); clear hb3 hc3 hm3 ho3) | (go_at_call 28; refine (eqall_same A2 A3 c2 c3 P _ HC4.out HC3.out).mono ?_; rintro e w4 ⟨rfl, hb4⟩; have HB4 := Aside0.mk (below_step HB3.out hb4); clear hb4) | (go_at_call 12; refine (awake_calls _).mono ?_; rintro e w5 ⟨rfl, hb5⟩; have HB5 := Aside0.mk (below_step HB4.out hb5); clear hb5))
      go_ret
      exact ⟨rfl, HB5.out⟩
    · exact closes_err A cp l w h hbig hgo (by decide) hx
    · exact closes_err A cp l w h hbig hgo (by decide) hx
end
end Go.Proofs.Ytiepinfcndefhaa.S
