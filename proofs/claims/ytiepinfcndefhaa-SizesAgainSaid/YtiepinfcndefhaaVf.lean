/- The reference's Loops, at a way of calls that fit: the walk. No condition. -/
import Derived.Test.YtiepinfcndefhaaVe
import Derived.Test.YtiepinfcndefhaaUg
namespace Go.Proofs.Ytiepinfcndefhaa.S
open Go.RowKit Go.Proofs.YtiepinfcndefhaaW.PrintWords Go.Proofs.YtiepinfcndefhaaW.PrintLast Go.Proofs.YtiepinfcndefhaaW.PrintMore
set_option linter.unusedVariables false
set_option linter.unusedSimpArgs false

/-- The i-th call of a way: what the calls up to it are, composed. -/
def StepAt (l : List Cl) (path : List Int) (G : Nat → Gr) (i : Nat) : Prop := ∃ (k : Nat) (c : Cl), rd path (i : Int) = (k : Int) ∧ l[k]? = some c ∧ c.arcs.all okA = true ∧
  (i = 0 → G 1 = ⟨c.src, c.dst, tabC c.arcs⟩) ∧ (0 < i → (G i).dst = c.src ∧ G (i + 1) = ⟨(G i).src, c.dst, comp (G i).tab (tabC c.arcs)⟩)
set_option maxHeartbeats 4000000 in
set_option maxRecDepth 100000 in
theorem rloops_calls (A P : Option Addr) (cp cpp : Nat) (l : List Cl) (path : List Int) (G : Nat → Gr) (w : World) (hl : kCl.C w A l.length l) (hll : l.length ≤ 1000000) (hp : (Kd.int .i64).C w P path.length path) (h1 : 0 < path.length) (h2 : path.length ≤ 2000)
    (hs : ∀ i, i < path.length → StepAt l path G i) (hg : ∀ i, 0 < i → i ≤ path.length → GTab (G i)) :
    Calls Try.prog 16 #[.slice A l.length cp, .slice P path.length cpp] w fun e w' => e = .returned (.bool (rbadF (callG (G path.length)))) ∧ Below w.heap.size w w' := by
  have HL := Aside0.mk hl
  have HP := Aside0.mk hp
  have HLL := Aside0.mk hll
  have H1 := Aside0.mk h1
  have H2 := Aside0.mk h2
  have HS := Aside0.mk hs
  have HG := Aside0.mk hg
  have g1 : decide ((path.length : Int) < 1) = false := decide_eq_false (by omega)
  have g2 : decide ((2000 : Int) < (path.length : Int)) = false := decide_eq_false (by omega)
  clear hl hp hll h1 h2 hs hg
  go_enter Try.func16, Try.ntmps16
  go_wp2
  clear g1 g2
  have HB0 : Aside0 (Below w.heap.size w (w.alloc (.cells #[.string ⟨#[]⟩, .string ⟨#[]⟩, .slice none 0 0] 34))) := ⟨below_alloc (Below.refl _ _) _⟩
  have HB5 : Aside0 (Blk (w.alloc (.cells #[.string ⟨#[]⟩, .string ⟨#[]⟩, .slice none 0 0] 34)) w.heap.size (⟨⟨#[]⟩, ⟨#[]⟩, []⟩ : Cl) none 0) := ⟨blk_new w _⟩
  generalize w.alloc (.cells #[.string ⟨#[]⟩, .string ⟨#[]⟩, .slice none 0 0] 34) = W0 at HB0 HB5 ⊢
  have HBS := Aside0.mk (Nat.le_refl w.heap.size)
  generalize hb5 : w.heap.size = b5 at HB5 ⊢
  have HE5 := Aside0.mk hb5
  clear hb5 HBS
  go_loopg [6, 7] path.length (fun kq v6 v7 w' => ∃ (i : Nat) (q : Cl) (A5 : Option Addr) (c5 : Nat), v6 = .int .i64 (i : Int) ∧ Aside0 (kq + i = path.length) ∧ Aside0 (Below w.heap.size w w') ∧ Aside0 (Blk w' b5 q A5 c5) ∧ Aside0 (kAc.R 24 w' w.heap.size (fun _ => True) (.slice A5 q.arcs.length c5) q.arcs) ∧ Aside0 (0 < i → q = callG (G i)))
  case atStart => exact ⟨0, ⟨⟨#[]⟩, ⟨#[]⟩, []⟩, none, 0, rfl, ⟨rfl⟩, HB0, HB5, ⟨Kd.R_nil _ _ _ _ _⟩, ⟨fun h => absurd h (by omega)⟩⟩
  case round =>
    clear HB0 HB5
    obtain ⟨i, q, A5, c5, rfl, HK, HBW, HB5, HR5, HQ⟩ := hrel
    by_cases hlt : i < path.length
    · have hdx : decide ((i : Int) < (path.length : Int)) = true := decide_eq_true (by omega)
      have hi0 : (i : Int) < (path.length : Int) := by omega
      have hib : wrap64 ((i : Int) + 1) = (i : Int) + 1 := by have := H2.out; unfold wrap64; omega
      have HLT := Aside0.mk hlt
      obtain ⟨ad, ea, q0⟩ := Kd.at_int (Kd.C_below HP.out HBW.out) (i : Int) (by omega) (by omega)
      rw [Int.toNat_natCast] at q0
      obtain ⟨k, c, hrd, hlk, hok, hs0, hs1⟩ := HS.out i hlt
      rw [hrd] at q0
      have hkl : k < l.length := (List.getElem?_eq_some_iff.1 hlk).1
      have hlk2 : l[k] = c := (List.getElem?_eq_some_iff.1 hlk).2
      obtain ⟨ld, X, xc, el, hxc, hx, hqa⟩ := cl_get2 (Kd.C_below HL.out HBW.out) k hkl
      rw [hlk2] at hxc hx hqa
      have HX := Aside0.mk hx
      have HOK := Aside0.mk hok
      have HS0 := Aside0.mk hs0
      have HS1 := Aside0.mk hs1
      obtain ⟨z0, z1, z2⟩ := hqa wr (Below.refl _ _)
      have hk0 : decide ((k : Int) < 0) = false := decide_eq_false (by omega)
      have hk1 : decide ((l.length : Int) ≤ (k : Int)) = false := decide_eq_false (by omega)
      have hk2 : (k : Int) < (l.length : Int) := by omega
      have hk3 : (0 : Int) ≤ (k : Int) := by omega
      subst ea
      subst el
      clear hrd hlk hlk2 hxc hx hqa hok hs0 hs1
      have HBA := Aside0.mk (below_alloc (Below.refl wr.heap.size wr) (.cells #[.string c.src, .string c.dst, .slice X c.arcs.length xc] 34))
      have HSZ := Aside0.mk (below_step HBW.out HBA.out).size
      by_cases hi : i = 0
      · have hi2 : ((i : Int) == 0) = true := by simp [hi]
        have HI := Aside0.mk hi
        have HG1 := Aside0.mk (HS0.out hi)
        clear hi HQ HS1 HR5
        obtain ⟨q2, hq2⟩ : ∃ x, x = callG (⟨c.src, c.dst, tabC c.arcs⟩ : Gr) := ⟨_, rfl⟩
        have HNO := Aside0.mk (normal_calls X xc c _ (Kd.C_below HX.out HBA.out) HOK.out)
        rw [← hq2] at HNO
        have HQ2 := Aside0.mk (show q2 = callG (G 1) by rw [hq2, HG1.out])
        clear hq2
        go_wp2_with (first | (go_at_call 43; refine HNO.out.mono ?_; rintro e w9 ⟨v9, rfl, ⟨u9, rfl, hr9⟩, hb9⟩; obtain ⟨A9, c9, ev9⟩ := Kd.R_slice hr9; subst ev9; have HB9 := Aside0.mk (below_step HBA.out hb9); have HR9 := Aside0.mk (Kd.R_lower hr9 HSZ.out); clear hb9 hr9) | ((with_reducible refine gate_store (t := 34) (p := 5) rfl ?_); refine store_whole rfl rfl rfl b5 34 _ #[.string q2.src, .string q2.dst, .slice A9 q2.arcs.length c9] (by rfl) (by rfl) (blk_below HB5.out HB9.out) (by kernel_rfl) rfl (by simp [Value.oneCell']) ?_))
        go_roundg (path.length - i - 1)
        case measure => have := HK.out; omega
        case rel => exact ⟨i + 1, q2, A9, c9, by go_num, ⟨by have := HK.out; have := HLT.out; omega⟩, ⟨row_step HBW.out HB9.out (Nat.le_of_eq HE5.out)⟩, ⟨setRow_at w9 b5 #[.string q2.src, .string q2.dst, .slice A9 q2.arcs.length c9] _ 34 (blk_below HB5.out HB9.out)⟩, ⟨R_row HR9.out (blk_below HB5.out HB9.out) (by decide) _⟩, ⟨fun _ => by rw [HI.out]; exact HQ2.out⟩⟩
      · have hi2 : ((i : Int) == 0) = false := by simp; omega
        have hip : 0 < i := by omega
        have hq := HQ.out hip
        obtain ⟨hgd, hgn⟩ := HS1.out hip
        have hgt := HG.out i hip (Nat.le_of_lt hlt)
        have hqs : q.src = (G i).src := by rw [hq]; rfl
        have hqd : q.dst = c.src := by rw [hq]; exact hgd
        have hqo : q.arcs.all okA = true := by rw [hq]; exact arcsN_ok _ 36 (Nat.le_refl _)
        have hqt : tabC q.arcs = (G i).tab := by rw [hq]; exact tabC_arcsN hgt
        have e2 : (q.dst.toList == c.src.toList) = true := by rw [hqd]; exact beq_self_eq_true _
        have e1 : (q.dst == c.src) = true := (beq_toListBytes _ _).trans e2
        have n1 : (q.dst != c.src) = false := by rw [bne, e1]; rfl
        obtain ⟨q2, hq2⟩ : ∃ x, x = callG (⟨q.src, c.dst, comp (tabC q.arcs) (tabC c.arcs)⟩ : Gr) := ⟨_, rfl⟩
        have HNO := Aside0.mk (compose_calls A5 X c5 xc q c _ (Kd.C_below (Kd.R_reads' HR5.out).2.2 HBA.out) (Kd.C_below HX.out HBA.out) hqo HOK.out)
        rw [← hq2] at HNO
        have HQ2 := Aside0.mk (show q2 = callG (G (i + 1)) by rw [hq2, hgn, hqs, hqt])
        obtain ⟨x0, x1, x2⟩ := Blk.cells (HB5.out.go HBA.out)
        clear hq2 hi hip hq hgd hgn hgt hqs hqd hqo hqt HQ HS0 HS1 HR5
        go_wp2_with (first | (go_at_call 44; refine HNO.out.mono ?_; clear x0 x1 x2; rintro e w9 ⟨v9, rfl, ⟨u9, rfl, hr9⟩, hb9⟩; obtain ⟨A9, c9, ev9⟩ := Kd.R_slice hr9; subst ev9; have HB9 := Aside0.mk (below_step HBA.out hb9); have HR9 := Aside0.mk (Kd.R_lower hr9 HSZ.out); clear hb9 hr9) | ((with_reducible refine gate_store (t := 34) (p := 5) rfl ?_); refine store_whole rfl rfl rfl b5 34 _ #[.string q2.src, .string q2.dst, .slice A9 q2.arcs.length c9] (by rfl) (by rfl) (blk_below HB5.out HB9.out) (by kernel_rfl) rfl (by simp [Value.oneCell']) ?_))
        go_roundg (path.length - i - 1)
        case measure => have := HK.out; omega
        case rel => exact ⟨i + 1, q2, A9, c9, by go_num, ⟨by have := HK.out; have := HLT.out; omega⟩, ⟨row_step HBW.out HB9.out (Nat.le_of_eq HE5.out)⟩, ⟨setRow_at w9 b5 #[.string q2.src, .string q2.dst, .slice A9 q2.arcs.length c9] _ 34 (blk_below HB5.out HB9.out)⟩, ⟨R_row HR9.out (blk_below HB5.out HB9.out) (by decide) _⟩, ⟨fun _ => HQ2.out⟩⟩
    · have hdx : decide ((i : Int) < (path.length : Int)) = false := decide_eq_false (by omega)
      have e : i = path.length := by have := HK.out; omega
      subst e
      have hq := HQ.out H1.out
      subst hq
      have HBD := Aside0.mk (fun (W : World) (hb : Below wr.heap.size wr W) => rbad_calls A5 c5 (callG (G path.length)) W (Kd.C_below (Kd.R_reads' HR5.out).2.2 hb) (arcsN_ok _ 36 (Nat.le_refl _)))
      obtain ⟨x0, x1, x2⟩ := Blk.cells HB5.out
      go_wp2_with (go_at_call 41; refine (HBD.out _ (Below.refl _ _)).mono ?_; rintro e w9 ⟨rfl, hb9⟩; have HB9 := Aside0.mk (below_step HBW.out hb9); clear hb9)
      go_ret
      exact ⟨rfl, HB9.out⟩
end Go.Proofs.Ytiepinfcndefhaa.S
