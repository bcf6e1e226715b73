/- Descends, the program's and the reference's, and the law SizesDescends: the walks. No condition. -/
import Derived.Test.YtiepinfcndefhaaUe
namespace Go.Proofs.Ytiepinfcndefhaa.S
open Go.RowKit Go.Proofs.YtiepinfcndefhaaW.PrintWords Go.Proofs.YtiepinfcndefhaaW.PrintLast Go.Proofs.YtiepinfcndefhaaW.PrintMore
set_option linter.unusedVariables false
set_option linter.unusedSimpArgs false

def powG (g : Gr) : Nat → Gr
  | 0 => g
  | n + 1 => thenG (powG g n) g
def descL (t : List Int) : Nat → List Int
  | 0 => []
  | i + 1 => if tat t i i = 2 then descL t i ++ [(i : Int)] else descL t i
/-- What Descends answers. -/
def descF (c : Cl) (n : Int) : List Int × Int := match readC c with
  | none => ([], 4)
  | some g => if g.src = g.dst then (if n < 1 ∨ 1000 < n then ([], 1) else (descL (powG g (n.toNat - 1)).tab 6, 0)) else ([], 4)
theorem powG_tab {g : Gr} (hg : GTab g) : ∀ n, GTab (powG g n)
  | 0 => hg
  | n + 1 => thenG_tab (powG_tab hg n) hg
theorem powG_src (g : Gr) : ∀ n, (powG g n).src = g.src
  | 0 => rfl
  | n + 1 => powG_src g n
theorem powG_dst (g : Gr) : ∀ n, (powG g n).dst = g.dst
  | 0 => rfl
  | n + 1 => rfl
theorem descL_len (t : List Int) : ∀ n, (descL t n).length ≤ n
  | 0 => Nat.le_refl _
  | n + 1 => by
    have := descL_len t n
    unfold descL
    split
    · simp; omega
    · omega
theorem tabC_arcsN {t : List Int} (ht : Tab t) : tabC (arcsN t 36) = t := by
  obtain ⟨h4, h5⟩ := fold_at ht 36 (Nat.le_refl _)
  exact tab_ext36 h4 ht.len (fun i k hi hk => by
    have := h5 i k hi hk
    rw [if_pos (by omega)] at this
    exact this)
theorem info3' : (Try.prog.info? 3).map (fun i => (i.zero, i.size, i.bytes)) = some (some (.int .i64 0), (Kd.int .i64).sz, 8) := by kernel_rfl
theorem descF_none {c : Cl} {n : Int} (h : readC c = none) : descF c n = ([], 4) := by unfold descF; rw [h]
theorem descF_some {c : Cl} {g : Gr} {n : Int} (h : readC c = some g) : descF c n = if g.src = g.dst then (if n < 1 ∨ 1000 < n then ([], 1) else (descL (powG g (n.toNat - 1)).tab 6, 0)) else ([], 4) := by unfold descF; rw [h]
/-- What the answer's list is. -/
def IntsOut (w : World) (l : List Int) (v : Value) : Prop := ∃ A c, v = .slice A l.length c ∧ (Kd.int .i64).C w A l.length l
theorem IntsOut.nil (w : World) : IntsOut w [] (.slice none 0 0) := ⟨none, 0, rfl, Kd.C_nil _ _⟩
theorem IntsOut.go {w w2 : World} {l : List Int} {v : Value} (h : IntsOut w l v) (hb : Below w.heap.size w w2) : IntsOut w2 l v := by
  obtain ⟨A, c, h1, h2⟩ := h
  exact ⟨A, c, h1, Kd.C_below h2 hb⟩
theorem row_keep {W : World} {g b t : Nat} {c cs : Array Value} {o : Obj} (h : W.heap[g]? = some o) (hb : W.heap[b]? = some (.cells c t (0, 0))) (ho : ∀ c2, o ≠ .cells c2 t (0, 0)) : (W.setRow b cs).heap[g]? = some o := by
  refine row_other h (fun e => ?_)
  subst e
  rw [hb] at h
  exact ho _ (Option.some.inj h).symm
set_option maxHeartbeats 4000000 in
set_option maxRecDepth 100000 in
theorem eqi_calls (A B : Option Addr) (cp cq : Nat) (l : List Int) (w : World) (ha : (Kd.int .i64).C w A l.length l) (hb : (Kd.int .i64).C w B l.length l) :
    Calls Try.prog 22 #[.slice A l.length cp, .slice B l.length cq] w fun e w' => e = .returned (.bool true) ∧ Below w.heap.size w w' := by
  have HA := Aside0.mk ha
  have HB := Aside0.mk hb
  have HLL := Aside0.mk ha.2.1
  have g1 : ((l.length : Int) != (l.length : Int)) = false := by simp
  clear ha hb
  go_enter Try.func22, Try.ntmps22
  go_wp2
  clear g1
  go_loopg [5] l.length (fun kq v5 w' => ∃ (i : Nat), v5 = .int .i64 (i : Int) ∧ Aside0 (kq + i = l.length) ∧ Aside0 (Below w.heap.size w w'))
  case atStart => exact ⟨0, rfl, ⟨rfl⟩, ⟨Below.refl _ _⟩⟩
  case round =>
    obtain ⟨i, rfl, HK, HBW⟩ := hrel
    by_cases hlt : i < l.length
    · have hdx : decide ((i : Int) < (l.length : Int)) = true := decide_eq_true (by omega)
      have hi0 : (i : Int) < (l.length : Int) := by omega
      have hib : wrap64 ((i : Int) + 1) = (i : Int) + 1 := by have := HLL.out; unfold wrap64; omega
      obtain ⟨ad, ea, q0⟩ := Kd.at_int (Kd.C_below HA.out HBW.out) (i : Int) (by omega) (by omega)
      obtain ⟨bd, eb, q1⟩ := Kd.at_int (Kd.C_below HB.out HBW.out) (i : Int) (by omega) (by omega)
      rw [Int.toNat_natCast] at q0 q1
      have HLT := Aside0.mk hlt
      subst ea
      subst eb
      generalize rd l (i : Int) = x at q0 q1
      go_wp2
      go_quiet (fail)
      have HB2 := Aside0.mk (below_step HBW.out (pw_below_drewN (Below.refl wr.heap.size wr) nq))
      go_wp2
      go_roundg (l.length - i - 1)
      case measure => have := HK.out; omega
      case rel => exact ⟨i + 1, by go_num, ⟨by have := HK.out; have := HLT.out; omega⟩, HB2⟩
    · have hdx : decide ((i : Int) < (l.length : Int)) = false := decide_eq_false (by omega)
      go_wp2
      go_ret
      exact ⟨rfl, HBW.out⟩
set_option maxHeartbeats 4000000 in
set_option maxRecDepth 100000 in
theorem dprog_calls (A : Option Addr) (cp : Nat) (c : Cl) (n : Int) (w : World) (h : kAc.C w A c.arcs.length c.arcs) (hl : c.arcs.length ≤ 1000000) :
    Calls Try.prog 20 #[.agg #[.string c.src, .string c.dst, .slice A c.arcs.length cp], .int .i64 n] w fun e w' => ∃ v, e = .returned (.tuple #[v, .int .i64 (descF c n).2]) ∧ IntsOut w' (descF c n).1 v ∧ Below w.heap.size w w' := by
  obtain ⟨cz, hcz⟩ : ∃ cz, cz = cG ⟨.empty, .empty, List.replicate 36 0⟩ := ⟨_, rfl⟩
  have HZR := Aside0.mk (zero81 cz hcz)
  have HZS := Aside0.mk (show cz.size = 38 by rw [hcz]; exact cG_size' (by simp))
  clear hcz
  obtain ⟨g, cg, ok, hrd, hcg, hsg, hog, hcall⟩ := read2 A cp c w h hl
  have HCA := Aside0.mk (hcall _ (below_alloc (Below.refl _ _) (.cells #[.string c.src, .string c.dst, .slice A c.arcs.length cp] 34)))
  have HB0 := Aside0.mk (below_alloc (Below.refl w.heap.size w) (.cells #[.string c.src, .string c.dst, .slice A c.arcs.length cp] 34))
  have HSG := Aside0.mk hsg
  have HOG := Aside0.mk hog
  clear hcall hsg hog h hl
  cases ok with
  | false =>
    have HR := Aside0.mk (descF_none (n := n) (show readC c = none from hrd))
    clear hrd hcg
    go_enter Try.func20, Try.ntmps20
    go_wp2_with (first | (go_at_call 45; refine HCA.out.mono ?_; rintro e w1 ⟨rfl, hb1⟩; have HB1 := Aside0.mk (below_step HB0.out hb1); clear hb1 HCA) | ((with_reducible refine gate_alloc (t := 81) rfl ?_); refine alloc_zero rfl rfl cz HZR.out ?_) | ((with_reducible refine gate_store (t := 81) (p := 6) rfl ?_); refine store_last rfl rfl rfl _ 81 cz cg (by rfl) (by rfl) rfl (by rw [HSG.out]; kernel_rfl) (HZS.out.trans HSG.out.symm) HOG.out ?_; have HBW := Aside0.mk (below_step HB1.out (below_alloc (Below.refl w1.heap.size w1) (.cells cg 81))); have HG := Aside0.mk (blk_new w1 (.cells cg 81)); have HGE0 := Aside0.mk HB1.out.size; generalize w1.alloc (.cells cg 81) = W2 at HBW HG ⊢; generalize w1.heap.size = gb at HG HGE0 ⊢))
    go_ret2
    exact ⟨.slice none 0 0, by rw [HR.out]; rfl, by rw [HR.out]; exact IntsOut.nil _, HBW.out⟩
  | true =>
    have hrd' : readC c = some g := hrd
    have HF := descF_some (n := n) hrd'
    have HGT := Aside0.mk (readC_tab hrd')
    have x0 := cG_0 g
    have x1 := cG_1 g
    rw [← hcg] at x0 x1
    have HX0 := Aside0.mk x0
    have HX1 := Aside0.mk x1
    clear x0 x1 hrd hrd'
    by_cases he : g.src = g.dst
    · have e2 : (g.src.toList == g.dst.toList) = true := by rw [he]; exact beq_self_eq_true _
      have e1 : (g.src == g.dst) = true := (beq_toListBytes _ _).trans e2
      have n1 : (g.src != g.dst) = false := by rw [bne, e1]; rfl
      rw [if_pos he] at HF
      by_cases h1 : n < 1
      · have HR := Aside0.mk (HF.trans (if_pos (.inl h1)))
        have d1 : decide (n < 1) = true := decide_eq_true h1
        clear HF he hcg h1
        go_enter Try.func20, Try.ntmps20
        go_wp2_with (first | (go_at_call 45; refine HCA.out.mono ?_; rintro e w1 ⟨rfl, hb1⟩; have HB1 := Aside0.mk (below_step HB0.out hb1); clear hb1 HCA) | ((with_reducible refine gate_alloc (t := 81) rfl ?_); refine alloc_zero rfl rfl cz HZR.out ?_) | ((with_reducible refine gate_store (t := 81) (p := 6) rfl ?_); refine store_last rfl rfl rfl _ 81 cz cg (by rfl) (by rfl) rfl (by rw [HSG.out]; kernel_rfl) (HZS.out.trans HSG.out.symm) HOG.out ?_; have HBW := Aside0.mk (below_step HB1.out (below_alloc (Below.refl w1.heap.size w1) (.cells cg 81))); have HG := Aside0.mk (blk_new w1 (.cells cg 81)); have HGE0 := Aside0.mk HB1.out.size; generalize w1.alloc (.cells cg 81) = W2 at HBW HG ⊢; generalize w1.heap.size = gb at HG HGE0 ⊢; have x0 := blk_at HG.out (k := 0) HX0.out; have x1 := blk_at HG.out (k := 1) HX1.out))
        go_ret2
        exact ⟨.slice none 0 0, by rw [HR.out]; rfl, by rw [HR.out]; exact IntsOut.nil _, HBW.out⟩
      have d1 : decide (n < 1) = false := decide_eq_false h1
      by_cases h2 : 1000 < n
      · have HR := Aside0.mk (HF.trans (if_pos (.inr h2)))
        have d2 : decide (1000 < n) = true := decide_eq_true h2
        clear HF he hcg h1 h2
        go_enter Try.func20, Try.ntmps20
        go_wp2_with (first | (go_at_call 45; refine HCA.out.mono ?_; rintro e w1 ⟨rfl, hb1⟩; have HB1 := Aside0.mk (below_step HB0.out hb1); clear hb1 HCA) | ((with_reducible refine gate_alloc (t := 81) rfl ?_); refine alloc_zero rfl rfl cz HZR.out ?_) | ((with_reducible refine gate_store (t := 81) (p := 6) rfl ?_); refine store_last rfl rfl rfl _ 81 cz cg (by rfl) (by rfl) rfl (by rw [HSG.out]; kernel_rfl) (HZS.out.trans HSG.out.symm) HOG.out ?_; have HBW := Aside0.mk (below_step HB1.out (below_alloc (Below.refl w1.heap.size w1) (.cells cg 81))); have HG := Aside0.mk (blk_new w1 (.cells cg 81)); have HGE0 := Aside0.mk HB1.out.size; generalize w1.alloc (.cells cg 81) = W2 at HBW HG ⊢; generalize w1.heap.size = gb at HG HGE0 ⊢; have x0 := blk_at HG.out (k := 0) HX0.out; have x1 := blk_at HG.out (k := 1) HX1.out))
        go_ret2
        exact ⟨.slice none 0 0, by rw [HR.out]; rfl, by rw [HR.out]; exact IntsOut.nil _, HBW.out⟩
      have d2 : decide (1000 < n) = false := decide_eq_false h2
      have HR := Aside0.mk (HF.trans (if_neg (by omega)))
      obtain ⟨m, rfl⟩ : ∃ m : Nat, n = (m : Int) + 1 := ⟨n.toNat - 1, by omega⟩
      have HM := Aside0.mk (show m < 1000 by omega)
      have HMN := Aside0.mk (show ((m : Int) + 1).toNat - 1 = m by omega)
      have HCG := Aside0.mk hcg
      have hb1 : (m : Int) ≤ 1000 := by omega
      have hb0 : (0 : Int) ≤ (m : Int) := by omega
      clear HF he hcg h1 h2
      go_enter Try.func20, Try.ntmps20
      go_wp2_with (first | (go_at_call 45; refine HCA.out.mono ?_; rintro e w1 ⟨rfl, hb1⟩; have HB1 := Aside0.mk (below_step HB0.out hb1); clear hb1 HCA) | ((with_reducible refine gate_alloc (t := 81) rfl ?_); refine alloc_zero rfl rfl cz HZR.out ?_) | ((with_reducible refine gate_store (t := 81) (p := 6) rfl ?_); refine store_last rfl rfl rfl _ 81 cz cg (by rfl) (by rfl) rfl (by rw [HSG.out]; kernel_rfl) (HZS.out.trans HSG.out.symm) HOG.out ?_; have HBW := Aside0.mk (below_step HB1.out (below_alloc (Below.refl w1.heap.size w1) (.cells cg 81))); have HG := Aside0.mk (blk_new w1 (.cells cg 81)); have HGE0 := Aside0.mk HB1.out.size; generalize w1.alloc (.cells cg 81) = W2 at HBW HG ⊢; generalize w1.heap.size = gb at HG HGE0 ⊢; have x0 := blk_at HG.out (k := 0) HX0.out; have x1 := blk_at HG.out (k := 1) HX1.out) | ((with_reducible refine gate_load (t := 81) (x := .tmp 6) rfl ?_); refine load_whole rfl rfl gb 81 cg _ (by rfl) HG.out Try.underlying81 rfl (by rw [HSG.out]; kernel_rfl) ?_) | ((with_reducible refine gate_store (t := 81) (p := 8) rfl ?_); refine store_last rfl rfl rfl _ 81 cz cg (by rfl) (by rfl) rfl (by rw [HSG.out]; kernel_rfl) (HZS.out.trans HSG.out.symm) HOG.out ?_; have HH := Aside0.mk (blk_new W2 (.cells cg 81)); have HNE := Aside0.mk (Ne.symm (new_ne HG.out)); have HGE := Aside0.mk HBW.out.size; replace HG := Aside0.mk (blk_below HG.out (below_alloc (Below.refl W2.heap.size W2) (.cells cg 81))); replace HBW := Aside0.mk (below_step HBW.out (below_alloc (Below.refl W2.heap.size W2) (.cells cg 81))); generalize W2.alloc (.cells cg 81) = W3 at HBW HG HH ⊢; generalize W2.heap.size = hb at HH HNE HGE ⊢))
      clear d1 d2 e1 e2 n1 x0 x1
      have HH0 := HH
      have HG0 := HG
      have HBW0 := HBW
      clear HH HG HBW
      go_loopg [36] m (fun kq v36 w' => ∃ (i : Nat), v36 = .int .i64 (i : Int) ∧ Aside0 (kq + i = m) ∧ Aside0 (Below w.heap.size w w') ∧ Aside0 (w'.heap[gb]? = some (.cells cg 81 (0, 0))) ∧ Aside0 (w'.heap[hb]? = some (.cells (cG (powG g i)) 81 (0, 0))))
      case atStart => exact ⟨0, rfl, ⟨rfl⟩, HBW0, HG0, ⟨by rw [show cG (powG g 0) = cg from HCG.out.symm]; exact HH0.out⟩⟩
      case round =>
        clear HBW0 HG0 HH0
        obtain ⟨i, rfl, HK, HBW, HG, HH⟩ := hrel
        by_cases hlt : i < m
        · have hdx : decide ((i : Int) < (m : Int)) = true := decide_eq_true (by omega)
          have hib : wrap64 ((i : Int) + 1) = (i : Int) + 1 := by have := HM.out; unfold wrap64; omega
          have HLT := Aside0.mk hlt
          have HTP := Aside0.mk (powG_tab HGT.out i)
          have HTH := Aside0.mk (fun W => show Calls Try.prog 46 #[.agg (cG (powG g i)), .agg cg] W fun e w' => e = .returned (.agg (cG (powG g (i + 1)))) ∧ Below W.heap.size W w' from by
            rw [HCG.out]
            exact then_calls (powG g i) g HTP.out HGT.out W)
          have HS1 := Aside0.mk (cG_size HTP.out)
          have HS2 := Aside0.mk (cG_size (powG_tab HGT.out (i + 1)))
          have HO2 := Aside0.mk (cG_one (powG g (i + 1)))
          generalize cG (powG g i) = ch at HH HTH HS1
          generalize hc2 : cG (powG g (i + 1)) = c2 at HTH HS2 HO2
          have HC2 := Aside0.mk hc2
          clear hc2
          go_wp2_with (first | ((with_reducible refine gate_load (t := 81) (x := .tmp 8) rfl ?_); refine load_whole rfl rfl hb 81 ch _ (by rfl) HH.out Try.underlying81 rfl (by rw [HS1.out]; kernel_rfl) ?_) | ((with_reducible refine gate_load (t := 81) (x := .tmp 6) rfl ?_); refine load_whole rfl rfl gb 81 cg _ (by rfl) HG.out Try.underlying81 rfl (by rw [HSG.out]; kernel_rfl) ?_) | (go_at_call 46; refine (HTH.out _).mono ?_; rintro e w5 ⟨rfl, hb5⟩; have HB5 := Aside0.mk hb5; clear hb5) | ((with_reducible refine gate_store (t := 81) (p := 8) rfl ?_); refine store_whole rfl rfl rfl hb 81 ch c2 (by rfl) (by rfl) (blk_below HH.out HB5.out) (by rw [HS2.out]; kernel_rfl) (HS1.out.trans HS2.out.symm) HO2.out ?_))
          go_roundg (m - i - 1)
          case measure => have := HK.out; omega
          case rel => exact ⟨i + 1, by go_num, ⟨by have := HK.out; have := HLT.out; omega⟩, ⟨row_step HBW.out HB5.out HGE.out⟩, ⟨row_other (blk_below HG.out HB5.out) HNE.out⟩, ⟨by rw [HC2.out]; exact setRow_at _ hb c2 ch 81 (blk_below HH.out HB5.out)⟩⟩
        · have hdx : decide ((i : Int) < (m : Int)) = false := decide_eq_false (by omega)
          have him : i = m := by have := HK.out; omega
          subst him
          have HTP := Aside0.mk (powG_tab HGT.out i)
          clear HK
          go_wp2
          clear hdx hlt
          rw [HMN.out] at HR
          generalize powG g i = q at HH HTP HR
          have HAT := Aside0.mk (fun j (hj : j < 6) => cG_at HTP.out.len hj hj)
          generalize cG q = cq at HH HAT
          obtain ⟨t, ht⟩ : ∃ t, t = q.tab := ⟨_, rfl⟩
          rw [← ht] at HAT HR
          clear ht
          go_loopg [9, 42] 6 (fun kq v9 v42 w' => ∃ (j : Nat), v42 = .int .i64 (j : Int) ∧ Aside0 (kq + j = 6) ∧ Aside0 (Below w.heap.size w w') ∧ Aside0 (w'.heap[hb]? = some (.cells cq 81 (0, 0))) ∧ Aside0 ((Kd.int .i64).R 3 w' w.heap.size (fun _ => True) v9 (descL t j)))
          case atStart => exact ⟨0, rfl, ⟨rfl⟩, HBW, HH, ⟨Kd.R_nil _ _ _ _ _⟩⟩
          case round =>
            clear HBW HH
            obtain ⟨j, rfl, HK, HBW, HH, HV⟩ := hrel
            by_cases hlt : j < 6
            · have hdx : decide ((j : Int) < 6) = true := decide_eq_true (by omega)
              have hib : wrap64 ((j : Int) + 1) = (j : Int) + 1 := by unfold wrap64; omega
              have b1 : (j : Int) < 6 := by omega
              have b2 : (0 : Int) ≤ (j : Int) := by omega
              have HLT := Aside0.mk hlt
              have z0 := blk_at HH.out (HAT.out j hlt)
              have HDS := Aside0.mk (show descL t (j + 1) = if tat t j j = 2 then descL t j ++ [(j : Int)] else descL t j from rfl)
              generalize tat t j j = x at z0 HDS
              by_cases hx : x = 2
              · have HD2 := Aside0.mk (HDS.out.trans (if_pos hx))
                subst hx
                have HLD := Aside0.mk (show (descL t j).length ≤ 6 by have := descL_len t j; omega)
                clear HDS
                go_wp2_with (at_builtin; go_loud (refine Kd.R_append (Kd.int .i64) (w0 := w) (W := wr) w.heap.size rfl (.tmp 52) (.tmp 54) 36 3 (.int .i64 0) 8 rfl Try.underlying36 info3' (by rfl) (by decide) (by omega) u9 (descL t j) (j : Int) [.int .i64 (j : Int)] (fun _ => True) (fun k => True ∧ some k ≠ u9.ownBlock) rfl rfl rfl (fun _ hk => hk) (fun _ _ => trivial) HV.out HBW.out HBW.out.size (by have := HLD.out; omega) ?_; intro v1 w1 hr1 hb1 hg1 hat1; have HV1 := Aside0.mk hr1; have HB1 := Aside0.mk hb1; have HH1 := Aside0.mk (blk_grown HH.out hg1 (Kd.R_ne HV.out HH.out (by decide))); clear hr1 hb1 hg1 hat1))
                go_roundg (6 - j - 1)
                case measure => have := HK.out; omega
                case rel => exact ⟨j + 1, by go_num, ⟨by have := HK.out; have := HLT.out; omega⟩, HB1, HH1, ⟨by rw [HD2.out]; exact HV1.out⟩⟩
              · have HD2 := Aside0.mk (HDS.out.trans (if_neg hx))
                have hxe : (x == 2) = false := by simpa using hx
                clear HDS
                go_wp2
                go_roundg (6 - j - 1)
                case measure => have := HK.out; omega
                case rel => exact ⟨j + 1, by go_num, ⟨by have := HK.out; have := HLT.out; omega⟩, HBW, HH, ⟨by rw [HD2.out]; exact HV.out⟩⟩
            · have hdx : decide ((j : Int) < 6) = false := decide_eq_false (by omega)
              have hj6 : j = 6 := by have := HK.out; omega
              subst hj6
              obtain ⟨A9, c9, ev9, hle9, hc9⟩ := Kd.R_reads HV.out
              have HC9 := Aside0.mk hc9
              subst ev9
              clear hc9 HK
              go_wp2
              go_ret2
              exact ⟨_, by rw [HR.out]; rfl, by rw [HR.out]; exact ⟨A9, c9, rfl, HC9.out⟩, HBW.out⟩
    · have HR := Aside0.mk (HF.trans (if_neg he))
      have e2 : (g.src.toList == g.dst.toList) = false := beq_eq_false_iff_ne.mpr (fun e => he (bytes_inj e))
      have e1 : (g.src == g.dst) = false := (beq_toListBytes _ _).trans e2
      have n1 : (g.src != g.dst) = true := by rw [bne, e1]; rfl
      clear HF he hcg
      go_enter Try.func20, Try.ntmps20
      go_wp2_with (first | (go_at_call 45; refine HCA.out.mono ?_; rintro e w1 ⟨rfl, hb1⟩; have HB1 := Aside0.mk (below_step HB0.out hb1); clear hb1 HCA) | ((with_reducible refine gate_alloc (t := 81) rfl ?_); refine alloc_zero rfl rfl cz HZR.out ?_) | ((with_reducible refine gate_store (t := 81) (p := 6) rfl ?_); refine store_last rfl rfl rfl _ 81 cz cg (by rfl) (by rfl) rfl (by rw [HSG.out]; kernel_rfl) (HZS.out.trans HSG.out.symm) HOG.out ?_; have HBW := Aside0.mk (below_step HB1.out (below_alloc (Below.refl w1.heap.size w1) (.cells cg 81))); have HG := Aside0.mk (blk_new w1 (.cells cg 81)); have HGE0 := Aside0.mk HB1.out.size; generalize w1.alloc (.cells cg 81) = W2 at HBW HG ⊢; generalize w1.heap.size = gb at HG HGE0 ⊢; have x0 := blk_at HG.out (k := 0) HX0.out; have x1 := blk_at HG.out (k := 1) HX1.out))
      go_ret2
      exact ⟨.slice none 0 0, by rw [HR.out]; rfl, by rw [HR.out]; exact IntsOut.nil _, HBW.out⟩
end Go.Proofs.Ytiepinfcndefhaa.S
