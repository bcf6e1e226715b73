import Derived.Test.YtlidibbdacohaaaR2
import Derived.Test.YtlidibbdacohaaaPRingEqualsxf60
import Derived.Test.YtlidibbdacohaaaPRingEqualsxf23
import Derived.Test.YtlidibbdacohaaaR3
import Derived.Test.YtlidibbdacohaaaR9
import Derived.Test.YtlidibbdacohaaaPRingEqualsxf41
import Derived.Test.YtlidibbdacohaaaPRingEqualsxf43
import Derived.Test.YtlidibbdacohaaaR5
/- Which lists of monomials are normal forms: what the reference's Is answers; the law's bigList. A list of monomials read into a polynomial: read (56). The sum and the product of two lists: what they answer. Add and Mul of the program: read, joined. The law Adds, walked. No condition. -/
namespace Go.Proofs.Ytlidibbdacohaaa.R
section
open Go.RowKit Go.Proofs.Ytlidibbdacohaaa.PRingEquals Go.Proofs.YtlidibbdacohaaaW.PrintWords Go.Proofs.YtlidibbdacohaaaW.PrintLast Go.Proofs.YtlidibbdacohaaaW.PrintMore
set_option linter.unusedVariables false
set_option linter.unusedSimpArgs false

theorem wrap_pred {i : Nat} (h0 : 0 < i) (h : i < 4398046511104) : wrap64 ((i : Int) - 1) = ((i - 1 : Nat) : Int) := by
  unfold wrap64
  omega
/-- The exponents from the j-th on. -/
def ExFrom (e : Ex) (j : Nat) : Prop := ∀ m, j ≤ m → (h : m < e.length) → 0 ≤ e[m] ∧ e[m] ≤ 60
/-- One monomial of a normal form, with the one before it. -/
structure It (l : Po) (j : Nat) (h : j < l.length) : Prop where
  lo : 1 ≤ l[j].2
  hi : l[j].2 ≤ 1000000000000000
  len : l[j].1.length = 8
  ex : ExFrom l[j].1 0
  ord : ∀ h0 : 0 < j, lessE (l[j - 1]'(by omega)).1 l[j].1 = true
theorem exok_from {e : Ex} (h : e.length = 8) (k : ExFrom e 0) : ExOk e := ⟨h, fun n hn => by
  obtain ⟨i, hi, rfl⟩ := List.mem_iff_getElem.1 hn
  exact k i (Nat.zero_le _) hi⟩
theorem exok_to {e : Ex} (h : ExOk e) : ExFrom e 0 := fun m _ hm => h.2 _ (List.getElem_mem hm)
theorem It.far {l : Po} (h : ∀ j (hj : j < l.length), It l j hj) (i : Nat) : ∀ d (hd : i + d + 1 < l.length), lessE (l[i]'(by omega)).1 l[i + d + 1].1 = true
  | 0, hd => (h (i + 0 + 1) hd).ord (by omega)
  | d + 1, hd => lessE_trans (It.far h i d (by omega)) ((h (i + (d + 1) + 1) hd).ord (by omega))
theorem nfe_of {l : Po} (hn : l.length ≤ 200) (h : ∀ j (hj : j < l.length), It l j hj) : NfE l := by
  have nf : Nf l := by
    refine ⟨?_, fun t ht => ?_, fun t ht => ?_⟩
    · rw [List.pairwise_iff_getElem]
      intro i j hi hj hij
      have := It.far h i (j - i - 1) (by omega)
      have e : i + (j - i - 1) + 1 = j := by omega
      simpa only [e] using this
    · obtain ⟨i, hi, rfl⟩ := List.mem_iff_getElem.1 ht
      have := (h i hi).lo
      omega
    · obtain ⟨i, hi, rfl⟩ := List.mem_iff_getElem.1 ht
      exact (h i hi).len
  refine ⟨nf, fun e => ?_, fun t ht => ?_, hn⟩
  · by_cases he : ∃ t ∈ l, t.1 = e
    · obtain ⟨t, ht, rfl⟩ := he
      rw [nf.co_mem ht]
      obtain ⟨i, hi, rfl⟩ := List.mem_iff_getElem.1 ht
      exact (h i hi).hi
    · rw [co_zero (fun t ht e2 => he ⟨t, ht, e2⟩)]
      omega
  · obtain ⟨i, hi, rfl⟩ := List.mem_iff_getElem.1 ht
    exact exok_from (h i hi).len (h i hi).ex
theorem nfe_it {l : Po} (h : NfE l) (j : Nat) (hj : j < l.length) : It l j hj :=
  ⟨(h.coef _ (List.getElem_mem hj)).1, (h.coef _ (List.getElem_mem hj)).2, h.nf.len _ (List.getElem_mem hj), exok_to (h.ex _ (List.getElem_mem hj)), fun h0 => List.pairwise_iff_getElem.1 h.nf.ord (j - 1) j (by omega) hj (by omega)⟩
theorem nfe_iff {l : Po} (hn : l.length ≤ 200) : NfE l ↔ ∀ j (hj : j < l.length), It l j hj := ⟨fun h => nfe_it h, nfe_of hn⟩
/-- The loop answers. -/
def IsA (l : Po) (i : Nat) (b : Bool) : Prop := (b = true ↔ ∀ j, i ≤ j → (hj : j < l.length) → It l j hj) ∧ Ev (fun k => tenetref24_Is.l0 k (toL l) (i : Int)) b
theorem is_l1 {l : Po} {i : Nat} (hn : l.length ≤ 200) (hi : i < l.length) (hlo : 1 ≤ l[i].2) (hhi : l[i].2 ≤ 1000000000000000) (h8 : l[i].1.length = 8) (hp : ∀ h0 : 0 < i, (l[i - 1]'(by omega)).1.length = 8) (next : It l i hi → ∃ b, IsA l (i + 1) b) :
    ∀ d j, d + j = 8 → (∀ m, m < j → (h : m < l[i].1.length) → 0 ≤ l[i].1[m] ∧ l[i].1[m] ≤ 60) → ∃ b, (b = true ↔ ∀ j, i ≤ j → (hj : j < l.length) → It l j hj) ∧ Ev (fun k => tenetref24_Is.l1 k (toL l) (i : Int) (j : Int)) b := by
  have hi0 : (0 : Int) ≤ (i : Int) := by omega
  have hix : (i : Int) < ((toL l).length : Int) := by simp [toL]; omega
  have fin : ∀ b, IsA l (i + 1) b → It l i hi → (b = true ↔ ∀ j, i ≤ j → (hj : j < l.length) → It l j hj) := by
    intro b hb hit
    rw [hb.1]
    exact ⟨fun q j h1 hj => (by
      rcases Nat.lt_or_ge i j with h | h
      · exact q j (by omega) hj
      · obtain rfl : i = j := by omega
        exact hit), fun q j h1 hj => q j (by omega) hj⟩
  intro d
  induction d with
  | zero =>
    intro j hj hdone
    obtain rfl : j = 8 := by omega
    have hex : ExFrom l[i].1 0 := fun m _ hm => hdone m (by omega) hm
    by_cases h0 : 0 < i
    · have c1 : (i : Int) > 0 := by omega
      have e1 := wrap_pred h0 (show i < 4398046511104 by omega)
      have c2 : (0 : Int) ≤ ((i - 1 : Nat) : Int) := by omega
      have c3 : ((i - 1 : Nat) : Int) < ((toL l).length : Int) := by simp [toL]; omega
      have HL := Aside0.mk (less_ev (hp h0) h8)
      by_cases hl : lessE (l[i - 1]'(by omega)).1 l[i].1 = true
      · have hit : It l i hi := ⟨hlo, hhi, h8, hex, fun _ => hl⟩
        obtain ⟨b, hb⟩ := next hit
        refine ⟨b, fin b hb hit, ?_⟩
        have HB := Aside0.mk hb.2
        refine Ev.step (fun k => tenetref24_Is.l1.eq_2 ..) ?_
        simp only [Int.reduceLT, if_false, if_pos c1, e1, if_pos c2, if_pos c3, if_pos hi0, if_pos hix, rd_toL l i hi, rd_toL l (i - 1) (by omega)]
        refine Ev.bind HL.out ?_
        simp only [hl, if_true, wrap_nat (show i < 4398046511104 by omega)]
        exact HB.out
      · refine ⟨false, ⟨fun h => (by cases h), fun h => absurd ((h i (Nat.le_refl _) hi).ord h0) hl⟩, ?_⟩
        refine Ev.step (fun k => tenetref24_Is.l1.eq_2 ..) ?_
        simp only [Int.reduceLT, if_false, if_pos c1, e1, if_pos c2, if_pos c3, if_pos hi0, if_pos hix, rd_toL l i hi, rd_toL l (i - 1) (by omega)]
        refine Ev.bind HL.out ?_
        simp only [hl, Bool.false_eq_true, if_false]
        exact Ev.now _
    · have c1 : ¬ (i : Int) > 0 := by omega
      have hit : It l i hi := ⟨hlo, hhi, h8, hex, fun h => absurd h h0⟩
      obtain ⟨b, hb⟩ := next hit
      refine ⟨b, fin b hb hit, ?_⟩
      have HB := Aside0.mk hb.2
      refine Ev.step (fun k => tenetref24_Is.l1.eq_2 ..) ?_
      simp only [Int.reduceLT, if_false, if_neg c1, wrap_nat (show i < 4398046511104 by omega)]
      exact HB.out
  | succ d ih =>
    intro j hj hdone
    have j0 : (0 : Int) ≤ (j : Int) := by omega
    have j8 : (j : Int) < 8 := by omega
    have jl : (j : Int) < (((toS l[i]).f1).length : Int) := by show (j : Int) < ((l[i].1).length : Int); omega
    have hjl : j < l[i].1.length := by omega
    have e1 : rd ((toS l[i]).f1) (j : Int) = l[i].1[j] := rd_nat l[i].1 j hjl
    by_cases c1 : l[i].1[j] < 0
    · refine ⟨false, ⟨fun h => (by cases h), fun h => absurd ((h i (Nat.le_refl _) hi).ex j (Nat.zero_le _) hjl).1 (by omega)⟩, ?_⟩
      refine Ev.step (fun k => tenetref24_Is.l1.eq_2 ..) ?_
      simp only [if_pos j8, if_pos hi0, if_pos hix, rd_toL l i hi, if_pos j0, if_pos jl, e1, if_pos c1]
      exact Ev.now _
    · by_cases c2 : l[i].1[j] > 60
      · refine ⟨false, ⟨fun h => (by cases h), fun h => absurd ((h i (Nat.le_refl _) hi).ex j (Nat.zero_le _) hjl).2 (by omega)⟩, ?_⟩
        refine Ev.step (fun k => tenetref24_Is.l1.eq_2 ..) ?_
        simp only [if_pos j8, if_pos hi0, if_pos hix, rd_toL l i hi, if_pos j0, if_pos jl, e1, if_neg c1, if_pos c2]
        exact Ev.now _
      · obtain ⟨b, hb1, hb2⟩ := ih (j + 1) (by omega) (fun m hm hml => by
          rcases Nat.lt_or_ge m j with h | h
          · exact hdone m h hml
          · obtain rfl : m = j := by omega
            exact ⟨Int.not_lt.1 c1, Int.not_lt.1 c2⟩)
        refine ⟨b, hb1, ?_⟩
        have HB := Aside0.mk hb2
        refine Ev.step (fun k => tenetref24_Is.l1.eq_2 ..) ?_
        simp only [if_pos j8, if_pos hi0, if_pos hix, rd_toL l i hi, if_pos j0, if_pos jl, e1, if_neg c1, if_neg c2, wrap_nat (show j < 4398046511104 by omega)]
        exact HB.out
theorem is_l0 {l : Po} (hn : l.length ≤ 200) : ∀ d i (h : d + i = l.length), (∀ h0 : 0 < i, (l[i - 1]'(by omega)).1.length = 8) → ∃ b, IsA l i b
  | 0, i, h, _ => by
    refine ⟨true, ⟨fun _ j h1 hj => absurd hj (by omega), fun _ => rfl⟩, ?_⟩
    have h1 : ¬ (i : Int) < ((toL l).length : Int) := by simp [toL]; omega
    refine Ev.step (fun k => tenetref24_Is.l0.eq_2 ..) ?_
    simp only [if_neg h1]
    exact Ev.now _
  | d + 1, i, h, hp => by
    have hi : i < l.length := by omega
    have hi0 : (0 : Int) ≤ (i : Int) := by omega
    have hix : (i : Int) < ((toL l).length : Int) := by simp [toL]; omega
    have no : ¬ It l i hi → ∀ x : Option Bool, ∃ b : Bool, b = false ∧ (b = true ↔ ∀ j, i ≤ j → (hj : j < l.length) → It l j hj) := fun q _ => ⟨false, rfl, ⟨fun h => (by cases h), fun h => absurd (h i (Nat.le_refl _) hi) q⟩⟩
    have step := fun k => tenetref24_Is.l0.eq_2 (toL l) (i : Int) k
    by_cases c1 : (toS l[i]).f0 < 1
    · refine ⟨false, ⟨fun h => (by cases h), fun h => absurd (h i (Nat.le_refl _) hi).lo (by have : l[i].2 < 1 := c1; omega)⟩, ?_⟩
      refine Ev.step (fun k => tenetref24_Is.l0.eq_2 ..) ?_
      simp only [if_pos hix, if_pos hi0, rd_toL l i hi, if_pos c1]
      refine Ev.step (fun k => tenetref24_Is.j1.eq_2 ..) ?_
      simp only [if_true]
      exact Ev.now _
    · by_cases c2 : (toS l[i]).f0 > 1000000000000000
      · refine ⟨false, ⟨fun h => (by cases h), fun h => absurd (h i (Nat.le_refl _) hi).hi (by have : l[i].2 > 1000000000000000 := c2; omega)⟩, ?_⟩
        refine Ev.step (fun k => tenetref24_Is.l0.eq_2 ..) ?_
        simp only [if_pos hix, if_pos hi0, rd_toL l i hi, if_neg c1, if_pos c2]
        refine Ev.step (fun k => tenetref24_Is.j1.eq_2 ..) ?_
        simp only [if_true]
        exact Ev.now _
      · by_cases c3 : l[i].1.length = 8
        · have e3 : ((((toS l[i]).f1).length : Int) != 8) = false := by
            show (((l[i].1).length : Int) != 8) = false
            rw [c3]
            rfl
          obtain ⟨b, hb1, hb2⟩ := is_l1 hn hi (by have : ¬ l[i].2 < 1 := c1; omega) (by have : ¬ l[i].2 > 1000000000000000 := c2; omega) c3 hp (fun hit => is_l0 hn d (i + 1) (by omega) (fun _ => c3)) 8 0 rfl (fun m hm => absurd hm (by omega))
          refine ⟨b, hb1, ?_⟩
          have HB := Aside0.mk hb2
          refine Ev.step (fun k => tenetref24_Is.l0.eq_2 ..) ?_
          simp only [if_pos hix, if_pos hi0, rd_toL l i hi, if_neg c1, if_neg c2, e3]
          refine Ev.step (fun k => tenetref24_Is.j1.eq_2 ..) ?_
          simp only [Bool.false_eq_true, if_false]
          exact HB.out
        · have e3 : ((((toS l[i]).f1).length : Int) != 8) = true := by
            show (((l[i].1).length : Int) != 8) = true
            rw [bne_iff_ne]
            omega
          refine ⟨false, ⟨fun h => (by cases h), fun h => absurd (h i (Nat.le_refl _) hi).len c3⟩, ?_⟩
          refine Ev.step (fun k => tenetref24_Is.l0.eq_2 ..) ?_
          simp only [if_pos hix, if_pos hi0, rd_toL l i hi, if_neg c1, if_neg c2, e3]
          refine Ev.step (fun k => tenetref24_Is.j1.eq_2 ..) ?_
          simp only [if_true]
          exact Ev.now _
theorem is_ev (l : Po) : ∃ b, (b = true ↔ NfE l) ∧ Ev (fun k => tenetref24_Is.f k (toL l)) b := by
  by_cases hn : l.length ≤ 200
  · have h1 : ¬ ((toL l).length : Int) > 200 := by simp [toL]; omega
    obtain ⟨b, hb⟩ := is_l0 hn l.length 0 rfl (fun h => absurd h (by omega))
    refine ⟨b, ?_, ?_⟩
    · rw [hb.1, nfe_iff hn]
      exact ⟨fun h j hj => h j (Nat.zero_le _) hj, fun h j _ hj => h j hj⟩
    · simp only [tenetref24_Is.f, if_neg h1]
      exact hb.2
  · have h1 : ((toL l).length : Int) > 200 := by simp [toL]; omega
    refine ⟨false, ⟨fun h => (by cases h), fun h => absurd h.len hn⟩, ?_⟩
    simp only [tenetref24_Is.f, if_pos h1]
    exact Ev.now _
/-- A list as monomials. -/
def ofS (s : S74) : Ex × Int := (s.f1, s.f0)
theorem toL_of (l : List S74) : toL (l.map ofS) = l := by
  show (l.map ofS).map toS = l
  rw [List.map_map]
  exact List.map_id l
theorem big_l0 {l : Po} (hn : l.length ≤ 300) : ∀ d i, d + i = l.length → ∃ b, Ev (fun k => tenetlaw24_bigList.l0 k (toL l) (i : Int)) b
  | 0, i, h => by
    refine ⟨false, ?_⟩
    have h1 : ¬ (i : Int) < ((toL l).length : Int) := by simp [toL]; omega
    refine Ev.step (fun k => tenetlaw24_bigList.l0.eq_2 ..) ?_
    simp only [if_neg h1]
    exact Ev.now _
  | d + 1, i, h => by
    have hi : i < l.length := by omega
    have hi0 : (0 : Int) ≤ (i : Int) := by omega
    have hix : (i : Int) < ((toL l).length : Int) := by simp [toL]; omega
    by_cases c1 : (((toS l[i]).f1).length : Int) > 20
    · refine ⟨true, ?_⟩
      refine Ev.step (fun k => tenetlaw24_bigList.l0.eq_2 ..) ?_
      simp only [if_pos hix, if_pos hi0, rd_toL l i hi, if_pos c1]
      exact Ev.now _
    · obtain ⟨b, hb⟩ := big_l0 hn d (i + 1) (by omega)
      refine ⟨b, ?_⟩
      have HB := Aside0.mk hb
      refine Ev.step (fun k => tenetlaw24_bigList.l0.eq_2 ..) ?_
      simp only [if_pos hix, if_pos hi0, rd_toL l i hi, if_neg c1, wrap_nat (show i < 4398046511104 by omega)]
      exact HB.out
theorem bigList_ev (l : Po) : ∃ b, (b = false → l.length ≤ 300) ∧ Ev (fun k => tenetlaw24_bigList.f k (toL l)) b := by
  by_cases hn : l.length ≤ 300
  · have h1 : ¬ ((toL l).length : Int) > 300 := by simp [toL]; omega
    obtain ⟨b, hb⟩ := big_l0 hn l.length 0 rfl
    refine ⟨b, fun _ => hn, ?_⟩
    simp only [tenetlaw24_bigList.f, if_neg h1]
    exact hb
  · have h1 : ((toL l).length : Int) > 300 := by simp [toL]; omega
    refine ⟨true, fun h => (by cases h), ?_⟩
    simp only [tenetlaw24_bigList.f, if_pos h1]
    exact Ev.now _
end
section
open Go.RowKit Go.Maps Go.ChangeShapes Go.WideShapes Go.Proofs.Ytlidibbdacohaaa.PRingEquals Go.Proofs.YtlidibbdacohaaaW.PrintWords Go.Proofs.YtlidibbdacohaaaW.PrintLast Go.Proofs.YtlidibbdacohaaaW.PrintMore
set_option linter.unusedVariables false
set_option linter.unusedSimpArgs false

theorem cmpE_anti : ∀ a b : Ex, cmpE a b = - cmpE b a
  | [], [] => rfl
  | [], _ :: _ => rfl
  | _ :: _, [] => rfl
  | x :: a, y :: b => by
    have := cmpE_anti a b
    simp only [cmpE]
    by_cases h1 : x < y
    · rw [if_pos h1, if_neg (by omega), if_pos h1]
    · by_cases h2 : y < x
      · rw [if_neg h1, if_pos h2, if_pos h2]
        rfl
      · rw [if_neg h1, if_neg h2, if_neg h2, if_neg h1, this]
theorem cmpE_le {a b : Ex} (h : a.length = b.length) : decide (cmpE a b ≤ 0) = !lessE a b := by
  have h1 := cmpE_neg h
  have h2 := cmpE_anti a b
  cases h3 : lessE a b with
  | true =>
    have := h1.2 h3
    exact decide_eq_false (by omega)
  | false =>
    have : ¬ cmpE b a < 0 := fun q => by rw [h1.1 q] at h3; cases h3
    exact decide_eq_true (by omega)
/-- An array out of the memory of a slice. -/
theorem arr_run {P : Program} {W : World} {o : Oper} {a : Act} {ty : TypeId} {x : Operand} (ho : o.op = .load ty x) {ad : Addr} {cs : List Value} {d : TypeDesc} (hx : a.eval x = .pointer (some ad)) (hc : ∀ j v, cs[j]? = some v → W.cell? (ad.add j) = some v)
    (hd : d.isRow = true) (hu : P.underlying ty = some d) (hi : (P.info? ty).map (·.size) = some cs.length) {ca : Array Value} (hca : ca = cs.toArray) : (execOp a.eval o).run P W = .ok (.value (.agg ca)) W := by
  subst hca
  have hl : (loadCells ad cs.length).run P W = .ok cs.toArray W := run_loadCells_list (P := P) W ad cs hc
  cases hq : P.info? ty with
  | none => simp [hq] at hi
  | some i =>
    have hs : i.size = cs.length := by simpa [hq] using hi
    have hagg : (isAgg ty).run P W = .ok true W := by
      unfold isAgg
      rw [Sem.run_bind, run_underlying hu W]
      cases d <;> simp_all
    simp [execOp, ho, hx, Instr.loadAt, Instr.sureAddr, loadVar, Sem.run_bind, Sem.run_pure, Result.andThen, hagg, sizeOf, typeInfo, hq, hs, hl]
theorem arrAt_run {P : Program} {W : World} {o : Oper} {a : Act} {ty e : TypeId} {x : Operand} (ho : o.op = .sliceToArrayPointer ty x) {A : Option Addr} {k c n : Nat} (hx : a.eval x = .slice A k c) (hu : P.underlying ty = some (.array n e)) (hl : n ≤ k) : (execOp a.eval o).run P W = .ok (.value (.pointer A)) W := by
  simp [execOp, ho, hx, Instr.arrayAt, Sem.run_bind, Sem.run_pure, Result.andThen, run_underlying hu, Nat.not_lt.2 hl]
/-- A slice of numbers, cell by cell. -/
theorem ints_cells {w : World} {ad : Addr} {l : List Int} (h : (Kd.int .i64).C w (some ad) l.length l) : ∀ j v, (l.map (Value.int .i64))[j]? = some v → w.cell? (ad.add j) = some v := by
  intro j v hj
  rw [List.getElem?_map] at hj
  cases hp : l[j]? with
  | none => rw [hp] at hj; cases hj
  | some p =>
    rw [hp] at hj
    obtain rfl := (Option.some.inj hj).symm
    have hjl := (List.getElem?_eq_some_iff.1 hp).1
    obtain ⟨ad2, e, hx⟩ := Kd.at_int h (j : Int) (by omega) (by omega)
    cases e
    have e2 : rd l (j : Int) = p := by simp [rd, List.getD_eq_getElem?_getD, hp]
    rw [e2] at hx
    simpa using hx
theorem ins_end {l : Po} {t : Ex × Int} (h : ∀ s ∈ l, lessE s.1 t.1 = true) : ins l t = l ++ [t] := by
  induction l with
  | nil => rfl
  | cons s l ih =>
    have h1 := h s List.mem_cons_self
    show (if lessE s.1 t.1 = true then s :: ins l t else _) = _
    rw [if_pos h1, ih (fun x hx => h x (List.mem_cons_of_mem _ hx))]
    rfl
/-- The exponents up to the j-th. -/
def ExTo (e : Ex) (j : Nat) : Prop := ∀ m, m < j → (h : m < e.length) → 0 ≤ e[m] ∧ e[m] ≤ 60
set_option maxRecDepth 100000 in
set_option maxHeartbeats 8000000 in
theorem read_calls (l : Po) (A : Option Addr) (c : Nat) (w : World) (hA : Kd.C k74 w A l.length (toL l)) (hc : l.length ≤ c) :
    Calls Try.prog 56 #[.slice A l.length c] w fun e w' => Below w.heap.size w w' ∧ ((NfE l ∧ ∃ mb, e = .returned (.tuple #[.map (some mb), .bool true]) ∧ PM w' mb l) ∨ (¬ NfE l ∧ e = .returned (.tuple #[.map none, .bool false]))) := by
  have hmm := @run_makeMap Try.prog
  have HA := Aside0.mk hA
  clear hA
  go_enter Try.func56, Try.ntmps56
  by_cases hn : l.length ≤ 200
  · have hnd : decide (200 < (l.length : Int)) = false := decide_eq_false (by omega)
    have hnd2 : decide (200 < l.length) = false := decide_eq_false (by omega)
    have HN := Aside0.mk hn
    clear hn
    go_wp2
    clear hmm
    have P0 := Aside0.mk (show PM (w.alloc (.map #[] 0)) w.heap.size [] from PM.new w)
    have B0 := Aside0.mk (below_alloc (Below.refl w.heap.size w) (.map #[] 0))
    generalize w.alloc (.map #[] 0) = W0 at P0 B0 ⊢
    go_loopg [15] l.length (fun kq v15 w1 => ∃ (i : Nat), v15 = .int .i64 (i : Int) ∧ Aside0 (kq + i = l.length) ∧ Aside0 (∀ j (hj : j < l.length), j < i → It l j hj) ∧ Aside0 (PM w1 w.heap.size (l.take i)) ∧ Aside0 (Below w.heap.size w w1))
    case atStart => exact ⟨0, rfl, ⟨rfl⟩, ⟨fun j hj h => absurd h (by omega)⟩, P0, B0⟩
    case round =>
      clear P0 B0
      obtain ⟨i, rfl, HK, HI, P1, B1⟩ := hrel
      by_cases hlt : i < l.length
      · have hdx : decide ((i : Int) < (l.length : Int)) = true := decide_eq_true (by omega)
        have hi0 : (0 : Int) ≤ (i : Int) := by omega
        have hix : (i : Int) < (l.length : Int) := by omega
        obtain ⟨ad, A1, c1, e, x0, x1, hl1, hi1⟩ := at_T74 (Kd.C_below HA.out B1.out) (i : Int) hi0 hix
        subst e
        rw [rd_toL l i hlt] at x0 x1 hl1 hi1
        rw [Int.toNat_natCast] at x0 x1
        obtain ⟨⟨ex, cf⟩, hel⟩ : ∃ t, l[i] = t := ⟨_, rfl⟩
        rw [hel] at x0 x1 hl1 hi1
        replace x0 : wr.cell? (ad.add (i * 2)) = some (.int .i64 cf) := x0
        replace x1 : wr.cell? ⟨(ad.add (i * 2)).block, (ad.add (i * 2)).off + 1, none⟩ = some (.slice A1 ex.length c1) := x1
        replace hl1 : ex.length ≤ c1 := hl1
        replace hi1 : (Kd.int .i64).C wr A1 ex.length ex := hi1
        have hdn : decide (i < l.length) = true := decide_eq_true hlt
        have HI0 := Aside0.mk hi1
        have HEL0 := Aside0.mk (show l[i]? = some (ex, cf) by rw [List.getElem?_eq_getElem hlt, hel])
        have q1 : (i < l.length) = True := eq_true hlt
        have hEx : (l[i]'hlt).1 = ex := by rw [hel]
        have hCf : (l[i]'hlt).2 = cf := by rw [hel]
        have HNO := Aside0.mk (fun (q : NfE l) => nfe_it q i hlt)
        have HIT := Aside0.mk (fun (h1 : 1 ≤ cf) (h2 : cf ≤ 1000000000000000) (h3 : ex.length = 8) (h4 : ExFrom ex 0) (h5 : ∀ h0 : 0 < i, lessE (l[i - 1]'(by omega)).1 ex = true) => show It l i hlt from ⟨hCf ▸ h1, hCf ▸ h2, hEx ▸ h3, hEx ▸ h4, fun h0 => hEx ▸ h5 h0⟩)
        have HLO := Aside0.mk (fun (h : It l i hlt) => show 1 ≤ cf from hCf ▸ h.lo)
        have HHI := Aside0.mk (fun (h : It l i hlt) => show cf ≤ 1000000000000000 from hCf ▸ h.hi)
        have HLEN := Aside0.mk (fun (h : It l i hlt) => show ex.length = 8 from hEx ▸ h.len)
        have HEXF := Aside0.mk (fun (h : It l i hlt) => show ExFrom ex 0 from hEx ▸ h.ex)
        have HORD := Aside0.mk (fun (h : It l i hlt) (h0 : 0 < i) => show lessE (l[i - 1]'(by omega)).1 ex = true from hEx ▸ h.ord h0)
        have HTK := Aside0.mk (show l.take i ++ [(ex, cf)] = l.take (i + 1) by rw [List.take_succ_eq_append_getElem hlt, hel])
        have G2 := Aside0.mk (blk_new wr (.cells #[.int .i64 cf, .slice A1 ex.length c1] 74))
        have B2 := Aside0.mk (below_step B1.out (below_alloc (Below.refl wr.heap.size wr) (.cells #[.int .i64 cf, .slice A1 ex.length c1] 74)))
        have P2 := Aside0.mk (P1.out.kept (World.grownBy_alloc wr (.cells #[.int .i64 cf, .slice A1 ex.length c1] 74) none) (by simp))
        have I2 := Aside0.mk (Kd.C_below hi1 (below_alloc (Below.refl wr.heap.size wr) (.cells #[.int .i64 cf, .slice A1 ex.length c1] 74)))
        have HL1 := Aside0.mk hl1
        have HLT := Aside0.mk hlt
        clear hl1 hi1 hel hi0 hix hEx hCf HI0
        go_wp2
        clear x0 x1
        generalize wr.alloc (.cells #[.int .i64 cf, .slice A1 ex.length c1] 74) = W at G2 B2 P2 I2 ⊢
        generalize wr.heap.size = bm at G2 ⊢
        have HM := Aside0.mk (fun (w' : World) (h : Below W.heap.size W w') => show w'.cell? ⟨bm, 0, none⟩ = some (.int .i64 cf) ∧ w'.cell? ⟨bm, 1, none⟩ = some (.slice A1 ex.length c1) from ⟨blk_at (k := 0) (blk_below G2.out h) rfl, blk_at (k := 1) (blk_below G2.out h) rfl⟩)
        clear P1 B1
        by_cases h1 : cf < 1
        · have d1 : decide (cf < 1) = true := decide_eq_true h1
          have HC1 := Aside0.mk h1
          clear h1
          refine start_ (n := 30) (S := fun w' => Below W.heap.size W w') (ds := []) #[false, false, false, false, false, false, false, false, false, false, false, false, false, false, false, false, false, false, false, false, false, false, false, false, false, false, false, false, false, false] (by kernel_rfl) rfl rfl (below_drew1 (Below.refl _ _)) (fun hHeld => ?_)
          refine pure_ (i := 0) (N := some 20) (v := ?_) (a' := ?_) #[true, false, false, false, false, false, false, false, false, false, false, false, false, false, false, false, false, false, false, false, false, false, false, false, false, false, false, false, false, false] rfl rfl (by kernel_rfl) (fun _ _ _ h => h) (Or.inl ⟨by rfl, ?_⟩) ?_ ?_
          rotate_left
          · intro w'
            go_simp
            with_reducible rfl
          rotate_left
          · simp only [Act.put, List.setIfInBounds_toArray, List.set_cons_zero, List.set_cons_succ, i64_w, i32_w]
            rfl
          refine take_ (i := 1) (N := some 21) (v := ?_) (a' := ?_) #[true, true, false, false, false, false, false, false, false, false, false, false, false, false, false, false, false, false, false, false, false, false, false, false, false, false, false, false, false, false] rfl rfl (by kernel_rfl) (fun _ _ _ h => h) (Or.inl ⟨by rfl, ?_⟩) hHeld ?_ ?_
          rotate_left
          · rintro w' s0
            obtain ⟨y0, y1⟩ := HM.out w' s0
            go_simp
            with_reducible rfl
          rotate_left
          · simp only [Act.put, List.setIfInBounds_toArray, List.set_cons_zero, List.set_cons_succ, i64_w, i32_w]
            rfl
          refine pure_ (i := 2) (N := some 22) (v := ?_) (a' := ?_) #[true, true, true, false, false, false, false, false, false, false, false, false, false, false, false, false, false, false, false, false, false, false, false, false, false, false, false, false, false, false] rfl rfl (by kernel_rfl) (fun _ _ _ h => h) (Or.inl ⟨by rfl, ?_⟩) ?_ ?_
          rotate_left
          · intro w'
            go_simp
            with_reducible rfl
          rotate_left
          · simp only [Act.put, List.setIfInBounds_toArray, List.set_cons_zero, List.set_cons_succ, i64_w, i32_w]
            rfl
          refine pure_ (i := 3) (N := some 23) (v := ?_) (a' := ?_) #[true, true, true, true, false, false, false, false, false, false, false, false, false, false, false, false, false, false, false, false, false, false, false, false, false, false, false, false, false, false] rfl rfl (by kernel_rfl) (fun _ _ _ h => h) (Or.inl ⟨by rfl, ?_⟩) ?_ ?_
          rotate_left
          · intro w'
            go_simp
            with_reducible rfl
          rotate_left
          · simp only [Act.put, List.setIfInBounds_toArray, List.set_cons_zero, List.set_cons_succ, i64_w, i32_w]
            rfl
          refine pure_ (i := 4) (N := some 24) (v := undef) (a' := ?_) #[true, true, true, true, true, false, false, false, false, false, false, false, false, false, false, false, false, false, false, false, false, false, false, false, false, false, false, false, false, false] rfl rfl (by kernel_rfl) (fun _ _ _ h => h) (Or.inr ⟨by rfl, rfl⟩) ?_ ?_
          rotate_left
          · simp only [Act.put, List.setIfInBounds_toArray, List.set_cons_zero, List.set_cons_succ, i64_w, i32_w]
            rfl
          refine pure_ (i := 5) (N := some 25) (v := undef) (a' := ?_) #[true, true, true, true, true, true, false, false, false, false, false, false, false, false, false, false, false, false, false, false, false, false, false, false, false, false, false, false, false, false] rfl rfl (by kernel_rfl) (fun _ _ _ h => h) (Or.inr ⟨by rfl, rfl⟩) ?_ ?_
          rotate_left
          · simp only [Act.put, List.setIfInBounds_toArray, List.set_cons_zero, List.set_cons_succ, i64_w, i32_w]
            rfl
          refine pure_ (i := 6) (N := some 26) (v := undef) (a' := ?_) #[true, true, true, true, true, true, true, false, false, false, false, false, false, false, false, false, false, false, false, false, false, false, false, false, false, false, false, false, false, false] rfl rfl (by kernel_rfl) (fun _ _ _ h => h) (Or.inr ⟨by rfl, rfl⟩) ?_ ?_
          rotate_left
          · simp only [Act.put, List.setIfInBounds_toArray, List.set_cons_zero, List.set_cons_succ, i64_w, i32_w]
            rfl
          refine pure_ (i := 7) (N := some 27) (v := ?_) (a' := ?_) #[true, true, true, true, true, true, true, true, false, false, false, false, false, false, false, false, false, false, false, false, false, false, false, false, false, false, false, false, false, false] rfl rfl (by kernel_rfl) (fun _ _ _ h => h) (Or.inl ⟨by rfl, ?_⟩) ?_ ?_
          rotate_left
          · intro w'
            go_simp
            with_reducible rfl
          rotate_left
          · simp only [Act.put, List.setIfInBounds_toArray, List.set_cons_zero, List.set_cons_succ, i64_w, i32_w]
            rfl
          refine pure_ (i := 8) (N := some 28) (v := ?_) (a' := ?_) #[true, true, true, true, true, true, true, true, true, false, false, false, false, false, false, false, false, false, false, false, false, false, false, false, false, false, false, false, false, false] rfl rfl (by kernel_rfl) (fun _ _ _ h => h) (Or.inl ⟨by rfl, ?_⟩) ?_ ?_
          rotate_left
          · intro w'
            go_simp
            with_reducible rfl
          rotate_left
          · simp only [Act.put, List.setIfInBounds_toArray, List.set_cons_zero, List.set_cons_succ, i64_w, i32_w]
            rfl
          refine pure_ (i := 9) (N := some 29) (v := undef) (a' := ?_) #[true, true, true, true, true, true, true, true, true, true, false, false, false, false, false, false, false, false, false, false, false, false, false, false, false, false, false, false, false, false] rfl rfl (by kernel_rfl) (fun _ _ _ h => h) (Or.inr ⟨by rfl, rfl⟩) ?_ ?_
          rotate_left
          · simp only [Act.put, List.setIfInBounds_toArray, List.set_cons_zero, List.set_cons_succ, i64_w, i32_w]
            rfl
          refine pure_ (i := 10) (N := some 30) (v := undef) (a' := ?_) #[true, true, true, true, true, true, true, true, true, true, true, false, false, false, false, false, false, false, false, false, false, false, false, false, false, false, false, false, false, false] rfl rfl (by kernel_rfl) (fun _ _ _ h => h) (Or.inr ⟨by rfl, rfl⟩) ?_ ?_
          rotate_left
          · simp only [Act.put, List.setIfInBounds_toArray, List.set_cons_zero, List.set_cons_succ, i64_w, i32_w]
            rfl
          refine pure_ (i := 11) (N := some 31) (v := undef) (a' := ?_) #[true, true, true, true, true, true, true, true, true, true, true, true, false, false, false, false, false, false, false, false, false, false, false, false, false, false, false, false, false, false] rfl rfl (by kernel_rfl) (fun _ _ _ h => h) (Or.inr ⟨by rfl, rfl⟩) ?_ ?_
          rotate_left
          · simp only [Act.put, List.setIfInBounds_toArray, List.set_cons_zero, List.set_cons_succ, i64_w, i32_w]
            rfl
          refine pure_ (i := 12) (N := some 32) (v := undef) (a' := ?_) #[true, true, true, true, true, true, true, true, true, true, true, true, true, false, false, false, false, false, false, false, false, false, false, false, false, false, false, false, false, false] rfl rfl (by kernel_rfl) (fun _ _ _ h => h) (Or.inr ⟨by rfl, rfl⟩) ?_ ?_
          rotate_left
          · simp only [Act.put, List.setIfInBounds_toArray, List.set_cons_zero, List.set_cons_succ, i64_w, i32_w]
            rfl
          refine pure_ (i := 13) (N := some 33) (v := ?_) (a' := ?_) #[true, true, true, true, true, true, true, true, true, true, true, true, true, true, false, false, false, false, false, false, false, false, false, false, false, false, false, false, false, false] rfl rfl (by kernel_rfl) (fun _ _ _ h => h) (Or.inl ⟨by rfl, ?_⟩) ?_ ?_
          rotate_left
          · intro w'
            go_simp
            with_reducible rfl
          rotate_left
          · simp only [Act.put, List.setIfInBounds_toArray, List.set_cons_zero, List.set_cons_succ, i64_w, i32_w]
            rfl
          refine pure_ (i := 14) (N := some 34) (v := ?_) (a' := ?_) #[true, true, true, true, true, true, true, true, true, true, true, true, true, true, true, false, false, false, false, false, false, false, false, false, false, false, false, false, false, false] rfl rfl (by kernel_rfl) (fun _ _ _ h => h) (Or.inl ⟨by rfl, ?_⟩) ?_ ?_
          rotate_left
          · intro w'
            go_simp
            with_reducible rfl
          rotate_left
          · simp only [Act.put, List.setIfInBounds_toArray, List.set_cons_zero, List.set_cons_succ, i64_w, i32_w]
            rfl
          refine pure_ (i := 15) (N := some 35) (v := undef) (a' := ?_) #[true, true, true, true, true, true, true, true, true, true, true, true, true, true, true, true, false, false, false, false, false, false, false, false, false, false, false, false, false, false] rfl rfl (by kernel_rfl) (fun _ _ _ h => h) (Or.inr ⟨by rfl, rfl⟩) ?_ ?_
          rotate_left
          · simp only [Act.put, List.setIfInBounds_toArray, List.set_cons_zero, List.set_cons_succ, i64_w, i32_w]
            rfl
          refine pure_ (i := 16) (N := some 36) (v := undef) (a' := ?_) #[true, true, true, true, true, true, true, true, true, true, true, true, true, true, true, true, true, false, false, false, false, false, false, false, false, false, false, false, false, false] rfl rfl (by kernel_rfl) (fun _ _ _ h => h) (Or.inr ⟨by rfl, rfl⟩) ?_ ?_
          rotate_left
          · simp only [Act.put, List.setIfInBounds_toArray, List.set_cons_zero, List.set_cons_succ, i64_w, i32_w]
            rfl
          refine pure_ (i := 17) (N := some 37) (v := undef) (a' := ?_) #[true, true, true, true, true, true, true, true, true, true, true, true, true, true, true, true, true, true, false, false, false, false, false, false, false, false, false, false, false, false] rfl rfl (by kernel_rfl) (fun _ _ _ h => h) (Or.inr ⟨by rfl, rfl⟩) ?_ ?_
          rotate_left
          · simp only [Act.put, List.setIfInBounds_toArray, List.set_cons_zero, List.set_cons_succ, i64_w, i32_w]
            rfl
          refine pure_ (i := 18) (N := some 38) (v := undef) (a' := ?_) #[true, true, true, true, true, true, true, true, true, true, true, true, true, true, true, true, true, true, true, false, false, false, false, false, false, false, false, false, false, false] rfl rfl (by kernel_rfl) (fun _ _ _ h => h) (Or.inr ⟨by rfl, rfl⟩) ?_ ?_
          rotate_left
          · simp only [Act.put, List.setIfInBounds_toArray, List.set_cons_zero, List.set_cons_succ, i64_w, i32_w]
            rfl
          refine pure_ (i := 19) (N := some 39) (v := undef) (a' := ?_) #[true, true, true, true, true, true, true, true, true, true, true, true, true, true, true, true, true, true, true, true, false, false, false, false, false, false, false, false, false, false] rfl rfl (by kernel_rfl) (fun _ _ _ h => h) (Or.inr ⟨by rfl, rfl⟩) ?_ ?_
          rotate_left
          · simp only [Act.put, List.setIfInBounds_toArray, List.set_cons_zero, List.set_cons_succ, i64_w, i32_w]
            rfl
          refine pure_ (i := 20) (N := some 40) (v := undef) (a' := ?_) #[true, true, true, true, true, true, true, true, true, true, true, true, true, true, true, true, true, true, true, true, true, false, false, false, false, false, false, false, false, false] rfl rfl (by kernel_rfl) (fun _ _ _ h => h) (Or.inr ⟨by rfl, rfl⟩) ?_ ?_
          rotate_left
          · simp only [Act.put, List.setIfInBounds_toArray, List.set_cons_zero, List.set_cons_succ, i64_w, i32_w]
            rfl
          refine pure_ (i := 21) (N := some 41) (v := undef) (a' := ?_) #[true, true, true, true, true, true, true, true, true, true, true, true, true, true, true, true, true, true, true, true, true, true, false, false, false, false, false, false, false, false] rfl rfl (by kernel_rfl) (fun _ _ _ h => h) (Or.inr ⟨by rfl, rfl⟩) ?_ ?_
          rotate_left
          · simp only [Act.put, List.setIfInBounds_toArray, List.set_cons_zero, List.set_cons_succ, i64_w, i32_w]
            rfl
          refine pure_ (i := 22) (N := some 42) (v := undef) (a' := ?_) #[true, true, true, true, true, true, true, true, true, true, true, true, true, true, true, true, true, true, true, true, true, true, true, false, false, false, false, false, false, false] rfl rfl (by kernel_rfl) (fun _ _ _ h => h) (Or.inr ⟨by rfl, rfl⟩) ?_ ?_
          rotate_left
          · simp only [Act.put, List.setIfInBounds_toArray, List.set_cons_zero, List.set_cons_succ, i64_w, i32_w]
            rfl
          refine pure_ (i := 23) (N := some 43) (v := undef) (a' := ?_) #[true, true, true, true, true, true, true, true, true, true, true, true, true, true, true, true, true, true, true, true, true, true, true, true, false, false, false, false, false, false] rfl rfl (by kernel_rfl) (fun _ _ _ h => h) (Or.inr ⟨by rfl, rfl⟩) ?_ ?_
          rotate_left
          · simp only [Act.put, List.setIfInBounds_toArray, List.set_cons_zero, List.set_cons_succ, i64_w, i32_w]
            rfl
          refine pure_ (i := 24) (N := some 44) (v := undef) (a' := ?_) #[true, true, true, true, true, true, true, true, true, true, true, true, true, true, true, true, true, true, true, true, true, true, true, true, true, false, false, false, false, false] rfl rfl (by kernel_rfl) (fun _ _ _ h => h) (Or.inr ⟨by rfl, rfl⟩) ?_ ?_
          rotate_left
          · simp only [Act.put, List.setIfInBounds_toArray, List.set_cons_zero, List.set_cons_succ, i64_w, i32_w]
            rfl
          refine pure_ (i := 25) (N := some 45) (v := undef) (a' := ?_) #[true, true, true, true, true, true, true, true, true, true, true, true, true, true, true, true, true, true, true, true, true, true, true, true, true, true, false, false, false, false] rfl rfl (by kernel_rfl) (fun _ _ _ h => h) (Or.inr ⟨by rfl, rfl⟩) ?_ ?_
          rotate_left
          · simp only [Act.put, List.setIfInBounds_toArray, List.set_cons_zero, List.set_cons_succ, i64_w, i32_w]
            rfl
          refine pure_ (i := 26) (N := some 46) (v := undef) (a' := ?_) #[true, true, true, true, true, true, true, true, true, true, true, true, true, true, true, true, true, true, true, true, true, true, true, true, true, true, true, false, false, false] rfl rfl (by kernel_rfl) (fun _ _ _ h => h) (Or.inr ⟨by rfl, rfl⟩) ?_ ?_
          rotate_left
          · simp only [Act.put, List.setIfInBounds_toArray, List.set_cons_zero, List.set_cons_succ, i64_w, i32_w]
            rfl
          refine pure_ (i := 27) (N := some 47) (v := undef) (a' := ?_) #[true, true, true, true, true, true, true, true, true, true, true, true, true, true, true, true, true, true, true, true, true, true, true, true, true, true, true, true, false, false] rfl rfl (by kernel_rfl) (fun _ _ _ h => h) (Or.inr ⟨by rfl, rfl⟩) ?_ ?_
          rotate_left
          · simp only [Act.put, List.setIfInBounds_toArray, List.set_cons_zero, List.set_cons_succ, i64_w, i32_w]
            rfl
          refine pure_ (i := 28) (N := some 48) (v := undef) (a' := ?_) #[true, true, true, true, true, true, true, true, true, true, true, true, true, true, true, true, true, true, true, true, true, true, true, true, true, true, true, true, true, false] rfl rfl (by kernel_rfl) (fun _ _ _ h => h) (Or.inr ⟨by rfl, rfl⟩) ?_ ?_
          rotate_left
          · simp only [Act.put, List.setIfInBounds_toArray, List.set_cons_zero, List.set_cons_succ, i64_w, i32_w]
            rfl
          refine pure_ (i := 29) (N := some 49) (v := ?_) (a' := ?_) #[true, true, true, true, true, true, true, true, true, true, true, true, true, true, true, true, true, true, true, true, true, true, true, true, true, true, true, true, true, true] rfl rfl (by kernel_rfl) (fun _ _ _ h => h) (Or.inl ⟨by rfl, ?_⟩) ?_ ?_
          rotate_left
          · intro w'
            go_simp
            with_reducible rfl
          rotate_left
          · simp only [Act.put, List.setIfInBounds_toArray, List.set_cons_zero, List.set_cons_succ, i64_w, i32_w]
            rfl
          refine done_ (by kernel_rfl) ?_
          have HH := Aside0.mk hHeld
          clear hHeld
          go_wp2
          go_ret2
          exact ⟨below_step B2.out HH.out, .inr ⟨fun q => (by have h1 := HLO.out (HNO.out q); have h2 := HC1.out; omega), rfl⟩⟩
        · have d1 : decide (cf < 1) = false := decide_eq_false h1
          have HC1 := Aside0.mk (show 1 ≤ cf by omega)
          clear h1
          by_cases h2 : cf > 1000000000000000
          · have d2 : decide (1000000000000000 < cf) = true := decide_eq_true h2
            have HC2 := Aside0.mk h2
            clear h2
            refine start_ (n := 30) (S := fun w' => Below W.heap.size W w') (ds := []) #[false, false, false, false, false, false, false, false, false, false, false, false, false, false, false, false, false, false, false, false, false, false, false, false, false, false, false, false, false, false] (by kernel_rfl) rfl rfl (below_drew1 (Below.refl _ _)) (fun hHeld => ?_)
            refine pure_ (i := 0) (N := some 20) (v := ?_) (a' := ?_) #[true, false, false, false, false, false, false, false, false, false, false, false, false, false, false, false, false, false, false, false, false, false, false, false, false, false, false, false, false, false] rfl rfl (by kernel_rfl) (fun _ _ _ h => h) (Or.inl ⟨by rfl, ?_⟩) ?_ ?_
            rotate_left
            · intro w'
              go_simp
              with_reducible rfl
            rotate_left
            · simp only [Act.put, List.setIfInBounds_toArray, List.set_cons_zero, List.set_cons_succ, i64_w, i32_w]
              rfl
            refine take_ (i := 1) (N := some 21) (v := ?_) (a' := ?_) #[true, true, false, false, false, false, false, false, false, false, false, false, false, false, false, false, false, false, false, false, false, false, false, false, false, false, false, false, false, false] rfl rfl (by kernel_rfl) (fun _ _ _ h => h) (Or.inl ⟨by rfl, ?_⟩) hHeld ?_ ?_
            rotate_left
            · rintro w' s0
              obtain ⟨y0, y1⟩ := HM.out w' s0
              go_simp
              with_reducible rfl
            rotate_left
            · simp only [Act.put, List.setIfInBounds_toArray, List.set_cons_zero, List.set_cons_succ, i64_w, i32_w]
              rfl
            refine pure_ (i := 2) (N := some 22) (v := ?_) (a' := ?_) #[true, true, true, false, false, false, false, false, false, false, false, false, false, false, false, false, false, false, false, false, false, false, false, false, false, false, false, false, false, false] rfl rfl (by kernel_rfl) (fun _ _ _ h => h) (Or.inl ⟨by rfl, ?_⟩) ?_ ?_
            rotate_left
            · intro w'
              go_simp
              with_reducible rfl
            rotate_left
            · simp only [Act.put, List.setIfInBounds_toArray, List.set_cons_zero, List.set_cons_succ, i64_w, i32_w]
              rfl
            refine pure_ (i := 3) (N := some 23) (v := ?_) (a' := ?_) #[true, true, true, true, false, false, false, false, false, false, false, false, false, false, false, false, false, false, false, false, false, false, false, false, false, false, false, false, false, false] rfl rfl (by kernel_rfl) (fun _ _ _ h => h) (Or.inl ⟨by rfl, ?_⟩) ?_ ?_
            rotate_left
            · intro w'
              go_simp
              with_reducible rfl
            rotate_left
            · simp only [Act.put, List.setIfInBounds_toArray, List.set_cons_zero, List.set_cons_succ, i64_w, i32_w]
              rfl
            refine pure_ (i := 4) (N := some 24) (v := ?_) (a' := ?_) #[true, true, true, true, true, false, false, false, false, false, false, false, false, false, false, false, false, false, false, false, false, false, false, false, false, false, false, false, false, false] rfl rfl (by kernel_rfl) (fun _ _ _ h => h) (Or.inl ⟨by rfl, ?_⟩) ?_ ?_
            rotate_left
            · intro w'
              go_simp
              with_reducible rfl
            rotate_left
            · simp only [Act.put, List.setIfInBounds_toArray, List.set_cons_zero, List.set_cons_succ, i64_w, i32_w]
              rfl
            refine take_ (i := 5) (N := some 25) (v := ?_) (a' := ?_) #[true, true, true, true, true, true, false, false, false, false, false, false, false, false, false, false, false, false, false, false, false, false, false, false, false, false, false, false, false, false] rfl rfl (by kernel_rfl) (fun _ _ _ h => h) (Or.inl ⟨by rfl, ?_⟩) hHeld ?_ ?_
            rotate_left
            · rintro w' s0
              obtain ⟨y0, y1⟩ := HM.out w' s0
              go_simp
              with_reducible rfl
            rotate_left
            · simp only [Act.put, List.setIfInBounds_toArray, List.set_cons_zero, List.set_cons_succ, i64_w, i32_w]
              rfl
            refine pure_ (i := 6) (N := some 26) (v := ?_) (a' := ?_) #[true, true, true, true, true, true, true, false, false, false, false, false, false, false, false, false, false, false, false, false, false, false, false, false, false, false, false, false, false, false] rfl rfl (by kernel_rfl) (fun _ _ _ h => h) (Or.inl ⟨by rfl, ?_⟩) ?_ ?_
            rotate_left
            · intro w'
              go_simp
              with_reducible rfl
            rotate_left
            · simp only [Act.put, List.setIfInBounds_toArray, List.set_cons_zero, List.set_cons_succ, i64_w, i32_w]
              rfl
            refine pure_ (i := 7) (N := some 27) (v := ?_) (a' := ?_) #[true, true, true, true, true, true, true, true, false, false, false, false, false, false, false, false, false, false, false, false, false, false, false, false, false, false, false, false, false, false] rfl rfl (by kernel_rfl) (fun _ _ _ h => h) (Or.inl ⟨by rfl, ?_⟩) ?_ ?_
            rotate_left
            · intro w'
              go_simp
              with_reducible rfl
            rotate_left
            · simp only [Act.put, List.setIfInBounds_toArray, List.set_cons_zero, List.set_cons_succ, i64_w, i32_w]
              rfl
            refine pure_ (i := 8) (N := some 28) (v := ?_) (a' := ?_) #[true, true, true, true, true, true, true, true, true, false, false, false, false, false, false, false, false, false, false, false, false, false, false, false, false, false, false, false, false, false] rfl rfl (by kernel_rfl) (fun _ _ _ h => h) (Or.inl ⟨by rfl, ?_⟩) ?_ ?_
            rotate_left
            · intro w'
              go_simp
              with_reducible rfl
            rotate_left
            · simp only [Act.put, List.setIfInBounds_toArray, List.set_cons_zero, List.set_cons_succ, i64_w, i32_w]
              rfl
            refine pure_ (i := 9) (N := some 29) (v := undef) (a' := ?_) #[true, true, true, true, true, true, true, true, true, true, false, false, false, false, false, false, false, false, false, false, false, false, false, false, false, false, false, false, false, false] rfl rfl (by kernel_rfl) (fun _ _ _ h => h) (Or.inr ⟨by rfl, rfl⟩) ?_ ?_
            rotate_left
            · simp only [Act.put, List.setIfInBounds_toArray, List.set_cons_zero, List.set_cons_succ, i64_w, i32_w]
              rfl
            refine pure_ (i := 10) (N := some 30) (v := undef) (a' := ?_) #[true, true, true, true, true, true, true, true, true, true, true, false, false, false, false, false, false, false, false, false, false, false, false, false, false, false, false, false, false, false] rfl rfl (by kernel_rfl) (fun _ _ _ h => h) (Or.inr ⟨by rfl, rfl⟩) ?_ ?_
            rotate_left
            · simp only [Act.put, List.setIfInBounds_toArray, List.set_cons_zero, List.set_cons_succ, i64_w, i32_w]
              rfl
            refine pure_ (i := 11) (N := some 31) (v := undef) (a' := ?_) #[true, true, true, true, true, true, true, true, true, true, true, true, false, false, false, false, false, false, false, false, false, false, false, false, false, false, false, false, false, false] rfl rfl (by kernel_rfl) (fun _ _ _ h => h) (Or.inr ⟨by rfl, rfl⟩) ?_ ?_
            rotate_left
            · simp only [Act.put, List.setIfInBounds_toArray, List.set_cons_zero, List.set_cons_succ, i64_w, i32_w]
              rfl
            refine pure_ (i := 12) (N := some 32) (v := undef) (a' := ?_) #[true, true, true, true, true, true, true, true, true, true, true, true, true, false, false, false, false, false, false, false, false, false, false, false, false, false, false, false, false, false] rfl rfl (by kernel_rfl) (fun _ _ _ h => h) (Or.inr ⟨by rfl, rfl⟩) ?_ ?_
            rotate_left
            · simp only [Act.put, List.setIfInBounds_toArray, List.set_cons_zero, List.set_cons_succ, i64_w, i32_w]
              rfl
            refine pure_ (i := 13) (N := some 33) (v := ?_) (a' := ?_) #[true, true, true, true, true, true, true, true, true, true, true, true, true, true, false, false, false, false, false, false, false, false, false, false, false, false, false, false, false, false] rfl rfl (by kernel_rfl) (fun _ _ _ h => h) (Or.inl ⟨by rfl, ?_⟩) ?_ ?_
            rotate_left
            · intro w'
              go_simp
              with_reducible rfl
            rotate_left
            · simp only [Act.put, List.setIfInBounds_toArray, List.set_cons_zero, List.set_cons_succ, i64_w, i32_w]
              rfl
            refine pure_ (i := 14) (N := some 34) (v := ?_) (a' := ?_) #[true, true, true, true, true, true, true, true, true, true, true, true, true, true, true, false, false, false, false, false, false, false, false, false, false, false, false, false, false, false] rfl rfl (by kernel_rfl) (fun _ _ _ h => h) (Or.inl ⟨by rfl, ?_⟩) ?_ ?_
            rotate_left
            · intro w'
              go_simp
              with_reducible rfl
            rotate_left
            · simp only [Act.put, List.setIfInBounds_toArray, List.set_cons_zero, List.set_cons_succ, i64_w, i32_w]
              rfl
            refine pure_ (i := 15) (N := some 35) (v := undef) (a' := ?_) #[true, true, true, true, true, true, true, true, true, true, true, true, true, true, true, true, false, false, false, false, false, false, false, false, false, false, false, false, false, false] rfl rfl (by kernel_rfl) (fun _ _ _ h => h) (Or.inr ⟨by rfl, rfl⟩) ?_ ?_
            rotate_left
            · simp only [Act.put, List.setIfInBounds_toArray, List.set_cons_zero, List.set_cons_succ, i64_w, i32_w]
              rfl
            refine pure_ (i := 16) (N := some 36) (v := undef) (a' := ?_) #[true, true, true, true, true, true, true, true, true, true, true, true, true, true, true, true, true, false, false, false, false, false, false, false, false, false, false, false, false, false] rfl rfl (by kernel_rfl) (fun _ _ _ h => h) (Or.inr ⟨by rfl, rfl⟩) ?_ ?_
            rotate_left
            · simp only [Act.put, List.setIfInBounds_toArray, List.set_cons_zero, List.set_cons_succ, i64_w, i32_w]
              rfl
            refine pure_ (i := 17) (N := some 37) (v := undef) (a' := ?_) #[true, true, true, true, true, true, true, true, true, true, true, true, true, true, true, true, true, true, false, false, false, false, false, false, false, false, false, false, false, false] rfl rfl (by kernel_rfl) (fun _ _ _ h => h) (Or.inr ⟨by rfl, rfl⟩) ?_ ?_
            rotate_left
            · simp only [Act.put, List.setIfInBounds_toArray, List.set_cons_zero, List.set_cons_succ, i64_w, i32_w]
              rfl
            refine pure_ (i := 18) (N := some 38) (v := undef) (a' := ?_) #[true, true, true, true, true, true, true, true, true, true, true, true, true, true, true, true, true, true, true, false, false, false, false, false, false, false, false, false, false, false] rfl rfl (by kernel_rfl) (fun _ _ _ h => h) (Or.inr ⟨by rfl, rfl⟩) ?_ ?_
            rotate_left
            · simp only [Act.put, List.setIfInBounds_toArray, List.set_cons_zero, List.set_cons_succ, i64_w, i32_w]
              rfl
            refine pure_ (i := 19) (N := some 39) (v := undef) (a' := ?_) #[true, true, true, true, true, true, true, true, true, true, true, true, true, true, true, true, true, true, true, true, false, false, false, false, false, false, false, false, false, false] rfl rfl (by kernel_rfl) (fun _ _ _ h => h) (Or.inr ⟨by rfl, rfl⟩) ?_ ?_
            rotate_left
            · simp only [Act.put, List.setIfInBounds_toArray, List.set_cons_zero, List.set_cons_succ, i64_w, i32_w]
              rfl
            refine pure_ (i := 20) (N := some 40) (v := undef) (a' := ?_) #[true, true, true, true, true, true, true, true, true, true, true, true, true, true, true, true, true, true, true, true, true, false, false, false, false, false, false, false, false, false] rfl rfl (by kernel_rfl) (fun _ _ _ h => h) (Or.inr ⟨by rfl, rfl⟩) ?_ ?_
            rotate_left
            · simp only [Act.put, List.setIfInBounds_toArray, List.set_cons_zero, List.set_cons_succ, i64_w, i32_w]
              rfl
            refine pure_ (i := 21) (N := some 41) (v := undef) (a' := ?_) #[true, true, true, true, true, true, true, true, true, true, true, true, true, true, true, true, true, true, true, true, true, true, false, false, false, false, false, false, false, false] rfl rfl (by kernel_rfl) (fun _ _ _ h => h) (Or.inr ⟨by rfl, rfl⟩) ?_ ?_
            rotate_left
            · simp only [Act.put, List.setIfInBounds_toArray, List.set_cons_zero, List.set_cons_succ, i64_w, i32_w]
              rfl
            refine pure_ (i := 22) (N := some 42) (v := undef) (a' := ?_) #[true, true, true, true, true, true, true, true, true, true, true, true, true, true, true, true, true, true, true, true, true, true, true, false, false, false, false, false, false, false] rfl rfl (by kernel_rfl) (fun _ _ _ h => h) (Or.inr ⟨by rfl, rfl⟩) ?_ ?_
            rotate_left
            · simp only [Act.put, List.setIfInBounds_toArray, List.set_cons_zero, List.set_cons_succ, i64_w, i32_w]
              rfl
            refine pure_ (i := 23) (N := some 43) (v := undef) (a' := ?_) #[true, true, true, true, true, true, true, true, true, true, true, true, true, true, true, true, true, true, true, true, true, true, true, true, false, false, false, false, false, false] rfl rfl (by kernel_rfl) (fun _ _ _ h => h) (Or.inr ⟨by rfl, rfl⟩) ?_ ?_
            rotate_left
            · simp only [Act.put, List.setIfInBounds_toArray, List.set_cons_zero, List.set_cons_succ, i64_w, i32_w]
              rfl
            refine pure_ (i := 24) (N := some 44) (v := undef) (a' := ?_) #[true, true, true, true, true, true, true, true, true, true, true, true, true, true, true, true, true, true, true, true, true, true, true, true, true, false, false, false, false, false] rfl rfl (by kernel_rfl) (fun _ _ _ h => h) (Or.inr ⟨by rfl, rfl⟩) ?_ ?_
            rotate_left
            · simp only [Act.put, List.setIfInBounds_toArray, List.set_cons_zero, List.set_cons_succ, i64_w, i32_w]
              rfl
            refine pure_ (i := 25) (N := some 45) (v := undef) (a' := ?_) #[true, true, true, true, true, true, true, true, true, true, true, true, true, true, true, true, true, true, true, true, true, true, true, true, true, true, false, false, false, false] rfl rfl (by kernel_rfl) (fun _ _ _ h => h) (Or.inr ⟨by rfl, rfl⟩) ?_ ?_
            rotate_left
            · simp only [Act.put, List.setIfInBounds_toArray, List.set_cons_zero, List.set_cons_succ, i64_w, i32_w]
              rfl
            refine pure_ (i := 26) (N := some 46) (v := undef) (a' := ?_) #[true, true, true, true, true, true, true, true, true, true, true, true, true, true, true, true, true, true, true, true, true, true, true, true, true, true, true, false, false, false] rfl rfl (by kernel_rfl) (fun _ _ _ h => h) (Or.inr ⟨by rfl, rfl⟩) ?_ ?_
            rotate_left
            · simp only [Act.put, List.setIfInBounds_toArray, List.set_cons_zero, List.set_cons_succ, i64_w, i32_w]
              rfl
            refine pure_ (i := 27) (N := some 47) (v := undef) (a' := ?_) #[true, true, true, true, true, true, true, true, true, true, true, true, true, true, true, true, true, true, true, true, true, true, true, true, true, true, true, true, false, false] rfl rfl (by kernel_rfl) (fun _ _ _ h => h) (Or.inr ⟨by rfl, rfl⟩) ?_ ?_
            rotate_left
            · simp only [Act.put, List.setIfInBounds_toArray, List.set_cons_zero, List.set_cons_succ, i64_w, i32_w]
              rfl
            refine pure_ (i := 28) (N := some 48) (v := undef) (a' := ?_) #[true, true, true, true, true, true, true, true, true, true, true, true, true, true, true, true, true, true, true, true, true, true, true, true, true, true, true, true, true, false] rfl rfl (by kernel_rfl) (fun _ _ _ h => h) (Or.inr ⟨by rfl, rfl⟩) ?_ ?_
            rotate_left
            · simp only [Act.put, List.setIfInBounds_toArray, List.set_cons_zero, List.set_cons_succ, i64_w, i32_w]
              rfl
            refine pure_ (i := 29) (N := some 49) (v := ?_) (a' := ?_) #[true, true, true, true, true, true, true, true, true, true, true, true, true, true, true, true, true, true, true, true, true, true, true, true, true, true, true, true, true, true] rfl rfl (by kernel_rfl) (fun _ _ _ h => h) (Or.inl ⟨by rfl, ?_⟩) ?_ ?_
            rotate_left
            · intro w'
              go_simp
              with_reducible rfl
            rotate_left
            · simp only [Act.put, List.setIfInBounds_toArray, List.set_cons_zero, List.set_cons_succ, i64_w, i32_w]
              rfl
            refine done_ (by kernel_rfl) ?_
            have HH := Aside0.mk hHeld
            clear hHeld
            go_wp2
            go_ret2
            exact ⟨below_step B2.out HH.out, .inr ⟨fun q => (by have h1 := HHI.out (HNO.out q); have h2 := HC2.out; omega), rfl⟩⟩
          · have d2 : decide (1000000000000000 < cf) = false := decide_eq_false h2
            have HC2 := Aside0.mk (show cf ≤ 1000000000000000 by omega)
            clear h2
            by_cases h3 : ex.length = 8
            · have HC3 := Aside0.mk h3
              clear h3
              have d3 : (ex.length = 8) = True := eq_true HC3.out
              have d3i : ((ex.length : Int) = 8) = True := eq_true (by have := HC3.out; omega)
              have d3b : ((ex.length : Int) != 8) = false := bne_eq_false_iff_eq.mpr (by have := HC3.out; omega)
              have d3c : ((ex.length : Int) == 8) = true := beq_iff_eq.mpr (by have := HC3.out; omega)
              by_cases h4 : 0 < i
              · have HC4 := Aside0.mk h4
                have h4' := h4
                obtain ⟨⟨pe, pc⟩, hpl⟩ : ∃ t, l[i - 1]'(by have := HLT.out; omega) = t := ⟨_, rfl⟩
                have hi0 : (0 : Int) ≤ ((i - 1 : Nat) : Int) := by omega
                have hix : ((i - 1 : Nat) : Int) < (l.length : Int) := by have := HLT.out; omega
                obtain ⟨ad', Ap, cp, e, _, x1, hlp, hip⟩ := at_T74 (Kd.C_below HA.out B2.out) ((i - 1 : Nat) : Int) hi0 hix
                cases e
                rw [rd_toL l (i - 1) (by have := HLT.out; omega), hpl] at x1 hlp hip
                rw [Int.toNat_natCast] at x1
                replace x1 : W.cell? ⟨(ad.add ((i - 1) * 2)).block, (ad.add ((i - 1) * 2)).off + 1, none⟩ = some (.slice Ap pe.length cp) := x1
                replace hlp : pe.length ≤ cp := hlp
                replace hip : (Kd.int .i64).C W Ap pe.length pe := hip
                have HP := Aside0.mk (fun (w' : World) (h : Below W.heap.size W w') => pw_cell_below h x1)
                have hp8 : pe.length = 8 := by have := (HI.out (i - 1) (by have := HLT.out; omega) (by omega)).len; rw [hpl] at this; exact this
                have HCMP := Aside0.mk (show ∀ w', Below W.heap.size W w' → Calls Try.prog 85 #[.slice Ap pe.length cp, .slice A1 ex.length c1] w' fun e w'' => e = .returned (.int .i64 (cmpE pe ex)) ∧ Drawn0 w' w'' from fun w' h => by
                  obtain ⟨k, hk⟩ := cmp_ev (a := pe) (b := ex) (by rw [hp8, HC3.out]) (by omega)
                  exact slices_Compare_int_int.calls k Ap cp pe A1 c1 ex _ w' (Kd.C_below hip h) hlp (Kd.C_below I2.out h) HL1.out (hk k (Nat.le_refl _)))
                have hcl := cmpE_le (a := pe) (b := ex) (by rw [hp8, HC3.out])
                have HW1 := Aside0.mk (wrap_pred h4 (show i < 4398046511104 by have := HLT.out; have := HN.out; omega))
                have hci : (i - 1 < l.length) = True := eq_true (by have := HLT.out; omega)
                have HPL := Aside0.mk (show (l[i - 1]'(by have := HLT.out; omega)).1 = pe by rw [hpl])
                have HORD2 := Aside0.mk (fun (h : It l i HLT.out) => show lessE pe ex = true by have := HORD.out h HC4.out; rw [hpl] at this; exact this)
                clear hpl x1 hlp hip hp8
                have d4 : decide (0 < (i : Int)) = true := decide_eq_true (by have := HC4.out; omega)
                have d4n : (0 < i) = True := eq_true HC4.out
                cases hls : lessE pe ex with
                | false =>
                  rw [hls] at hcl
                  have HLS := Aside0.mk hls
                  clear hls
                  replace hcl : decide (cmpE pe ex ≤ 0) = true := hcl
                  have hw1 := HW1.out
                  refine start_ (n := 30) (S := fun w' => Below W.heap.size W w') (ds := []) #[false, false, false, false, false, false, false, false, false, false, false, false, false, false, false, false, false, false, false, false, false, false, false, false, false, false, false, false, false, false] (by kernel_rfl) rfl rfl (below_drew1 (Below.refl _ _)) (fun hHeld => ?_)
                  refine pure_ (i := 0) (N := some 20) (v := ?_) (a' := ?_) #[true, false, false, false, false, false, false, false, false, false, false, false, false, false, false, false, false, false, false, false, false, false, false, false, false, false, false, false, false, false] rfl rfl (by kernel_rfl) (fun _ _ _ h => h) (Or.inl ⟨by rfl, ?_⟩) ?_ ?_
                  rotate_left
                  · intro w'
                    go_simp
                    with_reducible rfl
                  rotate_left
                  · simp only [Act.put, List.setIfInBounds_toArray, List.set_cons_zero, List.set_cons_succ, i64_w, i32_w]
                    rfl
                  refine take_ (i := 1) (N := some 21) (v := ?_) (a' := ?_) #[true, true, false, false, false, false, false, false, false, false, false, false, false, false, false, false, false, false, false, false, false, false, false, false, false, false, false, false, false, false] rfl rfl (by kernel_rfl) (fun _ _ _ h => h) (Or.inl ⟨by rfl, ?_⟩) hHeld ?_ ?_
                  rotate_left
                  · rintro w' s0
                    obtain ⟨y0, y1⟩ := HM.out w' s0
                    go_simp
                    with_reducible rfl
                  rotate_left
                  · simp only [Act.put, List.setIfInBounds_toArray, List.set_cons_zero, List.set_cons_succ, i64_w, i32_w]
                    rfl
                  refine pure_ (i := 2) (N := some 22) (v := ?_) (a' := ?_) #[true, true, true, false, false, false, false, false, false, false, false, false, false, false, false, false, false, false, false, false, false, false, false, false, false, false, false, false, false, false] rfl rfl (by kernel_rfl) (fun _ _ _ h => h) (Or.inl ⟨by rfl, ?_⟩) ?_ ?_
                  rotate_left
                  · intro w'
                    go_simp
                    with_reducible rfl
                  rotate_left
                  · simp only [Act.put, List.setIfInBounds_toArray, List.set_cons_zero, List.set_cons_succ, i64_w, i32_w]
                    rfl
                  refine pure_ (i := 3) (N := some 23) (v := ?_) (a' := ?_) #[true, true, true, true, false, false, false, false, false, false, false, false, false, false, false, false, false, false, false, false, false, false, false, false, false, false, false, false, false, false] rfl rfl (by kernel_rfl) (fun _ _ _ h => h) (Or.inl ⟨by rfl, ?_⟩) ?_ ?_
                  rotate_left
                  · intro w'
                    go_simp
                    with_reducible rfl
                  rotate_left
                  · simp only [Act.put, List.setIfInBounds_toArray, List.set_cons_zero, List.set_cons_succ, i64_w, i32_w]
                    rfl
                  refine pure_ (i := 4) (N := some 24) (v := ?_) (a' := ?_) #[true, true, true, true, true, false, false, false, false, false, false, false, false, false, false, false, false, false, false, false, false, false, false, false, false, false, false, false, false, false] rfl rfl (by kernel_rfl) (fun _ _ _ h => h) (Or.inl ⟨by rfl, ?_⟩) ?_ ?_
                  rotate_left
                  · intro w'
                    go_simp
                    with_reducible rfl
                  rotate_left
                  · simp only [Act.put, List.setIfInBounds_toArray, List.set_cons_zero, List.set_cons_succ, i64_w, i32_w]
                    rfl
                  refine take_ (i := 5) (N := some 25) (v := ?_) (a' := ?_) #[true, true, true, true, true, true, false, false, false, false, false, false, false, false, false, false, false, false, false, false, false, false, false, false, false, false, false, false, false, false] rfl rfl (by kernel_rfl) (fun _ _ _ h => h) (Or.inl ⟨by rfl, ?_⟩) hHeld ?_ ?_
                  rotate_left
                  · rintro w' s0
                    obtain ⟨y0, y1⟩ := HM.out w' s0
                    go_simp
                    with_reducible rfl
                  rotate_left
                  · simp only [Act.put, List.setIfInBounds_toArray, List.set_cons_zero, List.set_cons_succ, i64_w, i32_w]
                    rfl
                  refine pure_ (i := 6) (N := some 26) (v := ?_) (a' := ?_) #[true, true, true, true, true, true, true, false, false, false, false, false, false, false, false, false, false, false, false, false, false, false, false, false, false, false, false, false, false, false] rfl rfl (by kernel_rfl) (fun _ _ _ h => h) (Or.inl ⟨by rfl, ?_⟩) ?_ ?_
                  rotate_left
                  · intro w'
                    go_simp
                    with_reducible rfl
                  rotate_left
                  · simp only [Act.put, List.setIfInBounds_toArray, List.set_cons_zero, List.set_cons_succ, i64_w, i32_w]
                    rfl
                  refine pure_ (i := 7) (N := some 27) (v := ?_) (a' := ?_) #[true, true, true, true, true, true, true, true, false, false, false, false, false, false, false, false, false, false, false, false, false, false, false, false, false, false, false, false, false, false] rfl rfl (by kernel_rfl) (fun _ _ _ h => h) (Or.inl ⟨by rfl, ?_⟩) ?_ ?_
                  rotate_left
                  · intro w'
                    go_simp
                    with_reducible rfl
                  rotate_left
                  · simp only [Act.put, List.setIfInBounds_toArray, List.set_cons_zero, List.set_cons_succ, i64_w, i32_w]
                    rfl
                  refine pure_ (i := 8) (N := some 28) (v := ?_) (a' := ?_) #[true, true, true, true, true, true, true, true, true, false, false, false, false, false, false, false, false, false, false, false, false, false, false, false, false, false, false, false, false, false] rfl rfl (by kernel_rfl) (fun _ _ _ h => h) (Or.inl ⟨by rfl, ?_⟩) ?_ ?_
                  rotate_left
                  · intro w'
                    go_simp
                    with_reducible rfl
                  rotate_left
                  · simp only [Act.put, List.setIfInBounds_toArray, List.set_cons_zero, List.set_cons_succ, i64_w, i32_w]
                    rfl
                  refine pure_ (i := 9) (N := some 29) (v := ?_) (a' := ?_) #[true, true, true, true, true, true, true, true, true, true, false, false, false, false, false, false, false, false, false, false, false, false, false, false, false, false, false, false, false, false] rfl rfl (by kernel_rfl) (fun _ _ _ h => h) (Or.inl ⟨by rfl, ?_⟩) ?_ ?_
                  rotate_left
                  · intro w'
                    go_simp
                    with_reducible rfl
                  rotate_left
                  · simp only [Act.put, List.setIfInBounds_toArray, List.set_cons_zero, List.set_cons_succ, i64_w, i32_w]
                    rfl
                  refine take_ (i := 10) (N := some 30) (v := ?_) (a' := ?_) #[true, true, true, true, true, true, true, true, true, true, true, false, false, false, false, false, false, false, false, false, false, false, false, false, false, false, false, false, false, false] rfl rfl (by kernel_rfl) (fun _ _ _ h => h) (Or.inl ⟨by rfl, ?_⟩) hHeld ?_ ?_
                  rotate_left
                  · rintro w' s0
                    obtain ⟨y0, y1⟩ := HM.out w' s0
                    go_simp
                    with_reducible rfl
                  rotate_left
                  · simp only [Act.put, List.setIfInBounds_toArray, List.set_cons_zero, List.set_cons_succ, i64_w, i32_w]
                    rfl
                  refine pure_ (i := 11) (N := some 31) (v := ?_) (a' := ?_) #[true, true, true, true, true, true, true, true, true, true, true, true, false, false, false, false, false, false, false, false, false, false, false, false, false, false, false, false, false, false] rfl rfl (by kernel_rfl) (fun _ _ _ h => h) (Or.inl ⟨by rfl, ?_⟩) ?_ ?_
                  rotate_left
                  · intro w'
                    go_simp
                    with_reducible rfl
                  rotate_left
                  · simp only [Act.put, List.setIfInBounds_toArray, List.set_cons_zero, List.set_cons_succ, i64_w, i32_w]
                    rfl
                  refine pure_ (i := 12) (N := some 32) (v := ?_) (a' := ?_) #[true, true, true, true, true, true, true, true, true, true, true, true, true, false, false, false, false, false, false, false, false, false, false, false, false, false, false, false, false, false] rfl rfl (by kernel_rfl) (fun _ _ _ h => h) (Or.inl ⟨by rfl, ?_⟩) ?_ ?_
                  rotate_left
                  · intro w'
                    go_simp
                    with_reducible rfl
                  rotate_left
                  · simp only [Act.put, List.setIfInBounds_toArray, List.set_cons_zero, List.set_cons_succ, i64_w, i32_w]
                    rfl
                  refine pure_ (i := 13) (N := some 33) (v := ?_) (a' := ?_) #[true, true, true, true, true, true, true, true, true, true, true, true, true, true, false, false, false, false, false, false, false, false, false, false, false, false, false, false, false, false] rfl rfl (by kernel_rfl) (fun _ _ _ h => h) (Or.inl ⟨by rfl, ?_⟩) ?_ ?_
                  rotate_left
                  · intro w'
                    go_simp
                    with_reducible rfl
                  rotate_left
                  · simp only [Act.put, List.setIfInBounds_toArray, List.set_cons_zero, List.set_cons_succ, i64_w, i32_w]
                    rfl
                  refine pure_ (i := 14) (N := some 34) (v := ?_) (a' := ?_) #[true, true, true, true, true, true, true, true, true, true, true, true, true, true, true, false, false, false, false, false, false, false, false, false, false, false, false, false, false, false] rfl rfl (by kernel_rfl) (fun _ _ _ h => h) (Or.inl ⟨by rfl, ?_⟩) ?_ ?_
                  rotate_left
                  · intro w'
                    go_simp
                    with_reducible rfl
                  rotate_left
                  · simp only [Act.put, List.setIfInBounds_toArray, List.set_cons_zero, List.set_cons_succ, i64_w, i32_w]
                    rfl
                  refine pure_ (i := 15) (N := some 35) (v := ?_) (a' := ?_) #[true, true, true, true, true, true, true, true, true, true, true, true, true, true, true, true, false, false, false, false, false, false, false, false, false, false, false, false, false, false] rfl rfl (by kernel_rfl) (fun _ _ _ h => h) (Or.inl ⟨by rfl, ?_⟩) ?_ ?_
                  rotate_left
                  · intro w'
                    go_simp
                    with_reducible rfl
                  rotate_left
                  · simp only [Act.put, List.setIfInBounds_toArray, List.set_cons_zero, List.set_cons_succ, i64_w, i32_w]
                    rfl
                  refine pure_ (i := 16) (N := some 36) (v := ?_) (a' := ?_) #[true, true, true, true, true, true, true, true, true, true, true, true, true, true, true, true, true, false, false, false, false, false, false, false, false, false, false, false, false, false] rfl rfl (by kernel_rfl) (fun _ _ _ h => h) (Or.inl ⟨by rfl, ?_⟩) ?_ ?_
                  rotate_left
                  · intro w'
                    go_simp
                    with_reducible rfl
                  rotate_left
                  · simp only [Act.put, List.setIfInBounds_toArray, List.set_cons_zero, List.set_cons_succ, i64_w, i32_w]
                    rfl
                  refine pure_ (i := 17) (N := some 37) (v := ?_) (a' := ?_) #[true, true, true, true, true, true, true, true, true, true, true, true, true, true, true, true, true, true, false, false, false, false, false, false, false, false, false, false, false, false] rfl rfl (by kernel_rfl) (fun _ _ _ h => h) (Or.inl ⟨by rfl, ?_⟩) ?_ ?_
                  rotate_left
                  · intro w'
                    go_simp
                    with_reducible rfl
                  rotate_left
                  · simp only [Act.put, List.setIfInBounds_toArray, List.set_cons_zero, List.set_cons_succ, i64_w, i32_w]
                    rfl
                  refine pure_ (i := 18) (N := some 38) (v := ?_) (a' := ?_) #[true, true, true, true, true, true, true, true, true, true, true, true, true, true, true, true, true, true, true, false, false, false, false, false, false, false, false, false, false, false] rfl rfl (by kernel_rfl) (fun _ _ _ h => h) (Or.inl ⟨by rfl, ?_⟩) ?_ ?_
                  rotate_left
                  · intro w'
                    go_simp
                    with_reducible rfl
                  rotate_left
                  · simp only [Act.put, List.setIfInBounds_toArray, List.set_cons_zero, List.set_cons_succ, i64_w, i32_w]
                    rfl
                  refine pure_ (i := 19) (N := some 39) (v := ?_) (a' := ?_) #[true, true, true, true, true, true, true, true, true, true, true, true, true, true, true, true, true, true, true, true, false, false, false, false, false, false, false, false, false, false] rfl rfl (by kernel_rfl) (fun _ _ _ h => h) (Or.inl ⟨by rfl, ?_⟩) ?_ ?_
                  rotate_left
                  · intro w'
                    go_simp
                    with_reducible rfl
                  rotate_left
                  · simp only [Act.put, List.setIfInBounds_toArray, List.set_cons_zero, List.set_cons_succ, i64_w, i32_w]
                    rfl
                  refine pure_ (i := 20) (N := some 40) (v := ?_) (a' := ?_) #[true, true, true, true, true, true, true, true, true, true, true, true, true, true, true, true, true, true, true, true, true, false, false, false, false, false, false, false, false, false] rfl rfl (by kernel_rfl) (fun _ _ _ h => h) (Or.inl ⟨by rfl, ?_⟩) ?_ ?_
                  rotate_left
                  · intro w'
                    go_simp
                    with_reducible rfl
                  rotate_left
                  · simp only [Act.put, List.setIfInBounds_toArray, List.set_cons_zero, List.set_cons_succ, i64_w, i32_w]
                    rfl
                  refine pure_ (i := 21) (N := some 41) (v := ?_) (a' := ?_) #[true, true, true, true, true, true, true, true, true, true, true, true, true, true, true, true, true, true, true, true, true, true, false, false, false, false, false, false, false, false] rfl rfl (by kernel_rfl) (fun _ _ _ h => h) (Or.inl ⟨by rfl, ?_⟩) ?_ ?_
                  rotate_left
                  · intro w'
                    go_simp
                    with_reducible rfl
                  rotate_left
                  · simp only [Act.put, List.setIfInBounds_toArray, List.set_cons_zero, List.set_cons_succ, i64_w, i32_w]
                    rfl
                  refine pure_ (i := 22) (N := some 42) (v := ?_) (a' := ?_) #[true, true, true, true, true, true, true, true, true, true, true, true, true, true, true, true, true, true, true, true, true, true, true, false, false, false, false, false, false, false] rfl rfl (by kernel_rfl) (fun _ _ _ h => h) (Or.inl ⟨by rfl, ?_⟩) ?_ ?_
                  rotate_left
                  · intro w'
                    go_simp
                    with_reducible rfl
                  rotate_left
                  · simp only [Act.put, List.setIfInBounds_toArray, List.set_cons_zero, List.set_cons_succ, i64_w, i32_w]
                    rfl
                  refine take_ (i := 23) (N := some 43) (v := ?_) (a' := ?_) #[true, true, true, true, true, true, true, true, true, true, true, true, true, true, true, true, true, true, true, true, true, true, true, true, false, false, false, false, false, false] rfl rfl (by kernel_rfl) (fun _ _ _ h => h) (Or.inl ⟨by rfl, ?_⟩) hHeld ?_ ?_
                  rotate_left
                  · rintro w' s0
                    obtain z1 := HP.out w' s0
                    go_simp
                    with_reducible rfl
                  rotate_left
                  · simp only [Act.put, List.setIfInBounds_toArray, List.set_cons_zero, List.set_cons_succ, i64_w, i32_w]
                    rfl
                  refine pure_ (i := 24) (N := some 44) (v := ?_) (a' := ?_) #[true, true, true, true, true, true, true, true, true, true, true, true, true, true, true, true, true, true, true, true, true, true, true, true, true, false, false, false, false, false] rfl rfl (by kernel_rfl) (fun _ _ _ h => h) (Or.inl ⟨by rfl, ?_⟩) ?_ ?_
                  rotate_left
                  · intro w'
                    go_simp
                    with_reducible rfl
                  rotate_left
                  · simp only [Act.put, List.setIfInBounds_toArray, List.set_cons_zero, List.set_cons_succ, i64_w, i32_w]
                    rfl
                  refine take_ (i := 25) (N := some 45) (v := ?_) (a' := ?_) #[true, true, true, true, true, true, true, true, true, true, true, true, true, true, true, true, true, true, true, true, true, true, true, true, true, true, false, false, false, false] rfl rfl (by kernel_rfl) (fun _ _ _ h => h) (Or.inl ⟨by rfl, ?_⟩) hHeld ?_ ?_
                  rotate_left
                  · rintro w' s0
                    obtain ⟨y0, y1⟩ := HM.out w' s0
                    go_simp
                    with_reducible rfl
                  rotate_left
                  · simp only [Act.put, List.setIfInBounds_toArray, List.set_cons_zero, List.set_cons_succ, i64_w, i32_w]
                    rfl
                  refine one_ (i := 26) (N := some 46) #[true, true, true, true, true, true, true, true, true, true, true, true, true, true, true, true, true, true, true, true, true, true, true, true, true, true, true, false, false, false] rfl rfl (by kernel_rfl) (by decide) (fun K hK => ?_)
                  refine goes_ Try.func85 (by kernel_rfl) rfl #[.slice Ap pe.length cp, .slice A1 ex.length c1] (by rfl) rfl rfl (by (try simp only [List.map_toArray, List.map_cons, List.map_nil]); first | done | rfl) ?_
                  refine (HCMP.out _ hHeld).mono ?_
                  rintro e2 w3 ⟨rfl, ⟨nd, rfl⟩⟩
                  refine ⟨_, rfl, ?_⟩
                  have hB := pw_below_drewN hHeld nd
                  refine hK.out _ _ hB (fun _ => ?_)
                  clear hK K hHeld
                  have hHeld := hB
                  clear hB
                  refine norm_ (a' := ?_) ?_ ?_
                  rotate_left
                  · show Act.put _ (some 46) _ = _
                    simp only [Act.put, List.setIfInBounds_toArray, List.set_cons_zero, List.set_cons_succ, i64_w, i32_w]
                    rfl
                  refine pure_ (i := 27) (N := some 47) (v := ?_) (a' := ?_) #[true, true, true, true, true, true, true, true, true, true, true, true, true, true, true, true, true, true, true, true, true, true, true, true, true, true, true, true, false, false] rfl rfl (by kernel_rfl) (fun _ _ _ h => h) (Or.inl ⟨by rfl, ?_⟩) ?_ ?_
                  rotate_left
                  · intro w'
                    go_simp
                    with_reducible rfl
                  rotate_left
                  · simp only [Act.put, List.setIfInBounds_toArray, List.set_cons_zero, List.set_cons_succ, i64_w, i32_w]
                    rfl
                  refine pure_ (i := 28) (N := some 48) (v := ?_) (a' := ?_) #[true, true, true, true, true, true, true, true, true, true, true, true, true, true, true, true, true, true, true, true, true, true, true, true, true, true, true, true, true, false] rfl rfl (by kernel_rfl) (fun _ _ _ h => h) (Or.inl ⟨by rfl, ?_⟩) ?_ ?_
                  rotate_left
                  · intro w'
                    go_simp
                    with_reducible rfl
                  rotate_left
                  · simp only [Act.put, List.setIfInBounds_toArray, List.set_cons_zero, List.set_cons_succ, i64_w, i32_w]
                    rfl
                  refine pure_ (i := 29) (N := some 49) (v := ?_) (a' := ?_) #[true, true, true, true, true, true, true, true, true, true, true, true, true, true, true, true, true, true, true, true, true, true, true, true, true, true, true, true, true, true] rfl rfl (by kernel_rfl) (fun _ _ _ h => h) (Or.inl ⟨by rfl, ?_⟩) ?_ ?_
                  rotate_left
                  · intro w'
                    go_simp
                    with_reducible rfl
                  rotate_left
                  · simp only [Act.put, List.setIfInBounds_toArray, List.set_cons_zero, List.set_cons_succ, i64_w, i32_w]
                    rfl
                  refine done_ (by kernel_rfl) ?_
                  have HH := Aside0.mk hHeld
                  clear hHeld
                  go_wp2
                  go_ret2
                  exact ⟨below_step B2.out HH.out, .inr ⟨fun q => (by have h1 := HORD2.out (HNO.out q); rw [HLS.out] at h1; cases h1), rfl⟩⟩
                | true =>
                  rw [hls] at hcl
                  have HLS := Aside0.mk hls
                  clear hls
                  replace hcl : decide (cmpE pe ex ≤ 0) = false := hcl
                  have hw1 := HW1.out
                  refine start_ (n := 30) (S := fun w' => Below W.heap.size W w') (ds := []) #[false, false, false, false, false, false, false, false, false, false, false, false, false, false, false, false, false, false, false, false, false, false, false, false, false, false, false, false, false, false] (by kernel_rfl) rfl rfl (below_drew1 (Below.refl _ _)) (fun hHeld => ?_)
                  refine pure_ (i := 0) (N := some 20) (v := ?_) (a' := ?_) #[true, false, false, false, false, false, false, false, false, false, false, false, false, false, false, false, false, false, false, false, false, false, false, false, false, false, false, false, false, false] rfl rfl (by kernel_rfl) (fun _ _ _ h => h) (Or.inl ⟨by rfl, ?_⟩) ?_ ?_
                  rotate_left
                  · intro w'
                    go_simp
                    with_reducible rfl
                  rotate_left
                  · simp only [Act.put, List.setIfInBounds_toArray, List.set_cons_zero, List.set_cons_succ, i64_w, i32_w]
                    rfl
                  refine take_ (i := 1) (N := some 21) (v := ?_) (a' := ?_) #[true, true, false, false, false, false, false, false, false, false, false, false, false, false, false, false, false, false, false, false, false, false, false, false, false, false, false, false, false, false] rfl rfl (by kernel_rfl) (fun _ _ _ h => h) (Or.inl ⟨by rfl, ?_⟩) hHeld ?_ ?_
                  rotate_left
                  · rintro w' s0
                    obtain ⟨y0, y1⟩ := HM.out w' s0
                    go_simp
                    with_reducible rfl
                  rotate_left
                  · simp only [Act.put, List.setIfInBounds_toArray, List.set_cons_zero, List.set_cons_succ, i64_w, i32_w]
                    rfl
                  refine pure_ (i := 2) (N := some 22) (v := ?_) (a' := ?_) #[true, true, true, false, false, false, false, false, false, false, false, false, false, false, false, false, false, false, false, false, false, false, false, false, false, false, false, false, false, false] rfl rfl (by kernel_rfl) (fun _ _ _ h => h) (Or.inl ⟨by rfl, ?_⟩) ?_ ?_
                  rotate_left
                  · intro w'
                    go_simp
                    with_reducible rfl
                  rotate_left
                  · simp only [Act.put, List.setIfInBounds_toArray, List.set_cons_zero, List.set_cons_succ, i64_w, i32_w]
                    rfl
                  refine pure_ (i := 3) (N := some 23) (v := ?_) (a' := ?_) #[true, true, true, true, false, false, false, false, false, false, false, false, false, false, false, false, false, false, false, false, false, false, false, false, false, false, false, false, false, false] rfl rfl (by kernel_rfl) (fun _ _ _ h => h) (Or.inl ⟨by rfl, ?_⟩) ?_ ?_
                  rotate_left
                  · intro w'
                    go_simp
                    with_reducible rfl
                  rotate_left
                  · simp only [Act.put, List.setIfInBounds_toArray, List.set_cons_zero, List.set_cons_succ, i64_w, i32_w]
                    rfl
                  refine pure_ (i := 4) (N := some 24) (v := ?_) (a' := ?_) #[true, true, true, true, true, false, false, false, false, false, false, false, false, false, false, false, false, false, false, false, false, false, false, false, false, false, false, false, false, false] rfl rfl (by kernel_rfl) (fun _ _ _ h => h) (Or.inl ⟨by rfl, ?_⟩) ?_ ?_
                  rotate_left
                  · intro w'
                    go_simp
                    with_reducible rfl
                  rotate_left
                  · simp only [Act.put, List.setIfInBounds_toArray, List.set_cons_zero, List.set_cons_succ, i64_w, i32_w]
                    rfl
                  refine take_ (i := 5) (N := some 25) (v := ?_) (a' := ?_) #[true, true, true, true, true, true, false, false, false, false, false, false, false, false, false, false, false, false, false, false, false, false, false, false, false, false, false, false, false, false] rfl rfl (by kernel_rfl) (fun _ _ _ h => h) (Or.inl ⟨by rfl, ?_⟩) hHeld ?_ ?_
                  rotate_left
                  · rintro w' s0
                    obtain ⟨y0, y1⟩ := HM.out w' s0
                    go_simp
                    with_reducible rfl
                  rotate_left
                  · simp only [Act.put, List.setIfInBounds_toArray, List.set_cons_zero, List.set_cons_succ, i64_w, i32_w]
                    rfl
                  refine pure_ (i := 6) (N := some 26) (v := ?_) (a' := ?_) #[true, true, true, true, true, true, true, false, false, false, false, false, false, false, false, false, false, false, false, false, false, false, false, false, false, false, false, false, false, false] rfl rfl (by kernel_rfl) (fun _ _ _ h => h) (Or.inl ⟨by rfl, ?_⟩) ?_ ?_
                  rotate_left
                  · intro w'
                    go_simp
                    with_reducible rfl
                  rotate_left
                  · simp only [Act.put, List.setIfInBounds_toArray, List.set_cons_zero, List.set_cons_succ, i64_w, i32_w]
                    rfl
                  refine pure_ (i := 7) (N := some 27) (v := ?_) (a' := ?_) #[true, true, true, true, true, true, true, true, false, false, false, false, false, false, false, false, false, false, false, false, false, false, false, false, false, false, false, false, false, false] rfl rfl (by kernel_rfl) (fun _ _ _ h => h) (Or.inl ⟨by rfl, ?_⟩) ?_ ?_
                  rotate_left
                  · intro w'
                    go_simp
                    with_reducible rfl
                  rotate_left
                  · simp only [Act.put, List.setIfInBounds_toArray, List.set_cons_zero, List.set_cons_succ, i64_w, i32_w]
                    rfl
                  refine pure_ (i := 8) (N := some 28) (v := ?_) (a' := ?_) #[true, true, true, true, true, true, true, true, true, false, false, false, false, false, false, false, false, false, false, false, false, false, false, false, false, false, false, false, false, false] rfl rfl (by kernel_rfl) (fun _ _ _ h => h) (Or.inl ⟨by rfl, ?_⟩) ?_ ?_
                  rotate_left
                  · intro w'
                    go_simp
                    with_reducible rfl
                  rotate_left
                  · simp only [Act.put, List.setIfInBounds_toArray, List.set_cons_zero, List.set_cons_succ, i64_w, i32_w]
                    rfl
                  refine pure_ (i := 9) (N := some 29) (v := ?_) (a' := ?_) #[true, true, true, true, true, true, true, true, true, true, false, false, false, false, false, false, false, false, false, false, false, false, false, false, false, false, false, false, false, false] rfl rfl (by kernel_rfl) (fun _ _ _ h => h) (Or.inl ⟨by rfl, ?_⟩) ?_ ?_
                  rotate_left
                  · intro w'
                    go_simp
                    with_reducible rfl
                  rotate_left
                  · simp only [Act.put, List.setIfInBounds_toArray, List.set_cons_zero, List.set_cons_succ, i64_w, i32_w]
                    rfl
                  refine take_ (i := 10) (N := some 30) (v := ?_) (a' := ?_) #[true, true, true, true, true, true, true, true, true, true, true, false, false, false, false, false, false, false, false, false, false, false, false, false, false, false, false, false, false, false] rfl rfl (by kernel_rfl) (fun _ _ _ h => h) (Or.inl ⟨by rfl, ?_⟩) hHeld ?_ ?_
                  rotate_left
                  · rintro w' s0
                    obtain ⟨y0, y1⟩ := HM.out w' s0
                    go_simp
                    with_reducible rfl
                  rotate_left
                  · simp only [Act.put, List.setIfInBounds_toArray, List.set_cons_zero, List.set_cons_succ, i64_w, i32_w]
                    rfl
                  refine pure_ (i := 11) (N := some 31) (v := ?_) (a' := ?_) #[true, true, true, true, true, true, true, true, true, true, true, true, false, false, false, false, false, false, false, false, false, false, false, false, false, false, false, false, false, false] rfl rfl (by kernel_rfl) (fun _ _ _ h => h) (Or.inl ⟨by rfl, ?_⟩) ?_ ?_
                  rotate_left
                  · intro w'
                    go_simp
                    with_reducible rfl
                  rotate_left
                  · simp only [Act.put, List.setIfInBounds_toArray, List.set_cons_zero, List.set_cons_succ, i64_w, i32_w]
                    rfl
                  refine pure_ (i := 12) (N := some 32) (v := ?_) (a' := ?_) #[true, true, true, true, true, true, true, true, true, true, true, true, true, false, false, false, false, false, false, false, false, false, false, false, false, false, false, false, false, false] rfl rfl (by kernel_rfl) (fun _ _ _ h => h) (Or.inl ⟨by rfl, ?_⟩) ?_ ?_
                  rotate_left
                  · intro w'
                    go_simp
                    with_reducible rfl
                  rotate_left
                  · simp only [Act.put, List.setIfInBounds_toArray, List.set_cons_zero, List.set_cons_succ, i64_w, i32_w]
                    rfl
                  refine pure_ (i := 13) (N := some 33) (v := ?_) (a' := ?_) #[true, true, true, true, true, true, true, true, true, true, true, true, true, true, false, false, false, false, false, false, false, false, false, false, false, false, false, false, false, false] rfl rfl (by kernel_rfl) (fun _ _ _ h => h) (Or.inl ⟨by rfl, ?_⟩) ?_ ?_
                  rotate_left
                  · intro w'
                    go_simp
                    with_reducible rfl
                  rotate_left
                  · simp only [Act.put, List.setIfInBounds_toArray, List.set_cons_zero, List.set_cons_succ, i64_w, i32_w]
                    rfl
                  refine pure_ (i := 14) (N := some 34) (v := ?_) (a' := ?_) #[true, true, true, true, true, true, true, true, true, true, true, true, true, true, true, false, false, false, false, false, false, false, false, false, false, false, false, false, false, false] rfl rfl (by kernel_rfl) (fun _ _ _ h => h) (Or.inl ⟨by rfl, ?_⟩) ?_ ?_
                  rotate_left
                  · intro w'
                    go_simp
                    with_reducible rfl
                  rotate_left
                  · simp only [Act.put, List.setIfInBounds_toArray, List.set_cons_zero, List.set_cons_succ, i64_w, i32_w]
                    rfl
                  refine pure_ (i := 15) (N := some 35) (v := ?_) (a' := ?_) #[true, true, true, true, true, true, true, true, true, true, true, true, true, true, true, true, false, false, false, false, false, false, false, false, false, false, false, false, false, false] rfl rfl (by kernel_rfl) (fun _ _ _ h => h) (Or.inl ⟨by rfl, ?_⟩) ?_ ?_
                  rotate_left
                  · intro w'
                    go_simp
                    with_reducible rfl
                  rotate_left
                  · simp only [Act.put, List.setIfInBounds_toArray, List.set_cons_zero, List.set_cons_succ, i64_w, i32_w]
                    rfl
                  refine pure_ (i := 16) (N := some 36) (v := ?_) (a' := ?_) #[true, true, true, true, true, true, true, true, true, true, true, true, true, true, true, true, true, false, false, false, false, false, false, false, false, false, false, false, false, false] rfl rfl (by kernel_rfl) (fun _ _ _ h => h) (Or.inl ⟨by rfl, ?_⟩) ?_ ?_
                  rotate_left
                  · intro w'
                    go_simp
                    with_reducible rfl
                  rotate_left
                  · simp only [Act.put, List.setIfInBounds_toArray, List.set_cons_zero, List.set_cons_succ, i64_w, i32_w]
                    rfl
                  refine pure_ (i := 17) (N := some 37) (v := ?_) (a' := ?_) #[true, true, true, true, true, true, true, true, true, true, true, true, true, true, true, true, true, true, false, false, false, false, false, false, false, false, false, false, false, false] rfl rfl (by kernel_rfl) (fun _ _ _ h => h) (Or.inl ⟨by rfl, ?_⟩) ?_ ?_
                  rotate_left
                  · intro w'
                    go_simp
                    with_reducible rfl
                  rotate_left
                  · simp only [Act.put, List.setIfInBounds_toArray, List.set_cons_zero, List.set_cons_succ, i64_w, i32_w]
                    rfl
                  refine pure_ (i := 18) (N := some 38) (v := ?_) (a' := ?_) #[true, true, true, true, true, true, true, true, true, true, true, true, true, true, true, true, true, true, true, false, false, false, false, false, false, false, false, false, false, false] rfl rfl (by kernel_rfl) (fun _ _ _ h => h) (Or.inl ⟨by rfl, ?_⟩) ?_ ?_
                  rotate_left
                  · intro w'
                    go_simp
                    with_reducible rfl
                  rotate_left
                  · simp only [Act.put, List.setIfInBounds_toArray, List.set_cons_zero, List.set_cons_succ, i64_w, i32_w]
                    rfl
                  refine pure_ (i := 19) (N := some 39) (v := ?_) (a' := ?_) #[true, true, true, true, true, true, true, true, true, true, true, true, true, true, true, true, true, true, true, true, false, false, false, false, false, false, false, false, false, false] rfl rfl (by kernel_rfl) (fun _ _ _ h => h) (Or.inl ⟨by rfl, ?_⟩) ?_ ?_
                  rotate_left
                  · intro w'
                    go_simp
                    with_reducible rfl
                  rotate_left
                  · simp only [Act.put, List.setIfInBounds_toArray, List.set_cons_zero, List.set_cons_succ, i64_w, i32_w]
                    rfl
                  refine pure_ (i := 20) (N := some 40) (v := ?_) (a' := ?_) #[true, true, true, true, true, true, true, true, true, true, true, true, true, true, true, true, true, true, true, true, true, false, false, false, false, false, false, false, false, false] rfl rfl (by kernel_rfl) (fun _ _ _ h => h) (Or.inl ⟨by rfl, ?_⟩) ?_ ?_
                  rotate_left
                  · intro w'
                    go_simp
                    with_reducible rfl
                  rotate_left
                  · simp only [Act.put, List.setIfInBounds_toArray, List.set_cons_zero, List.set_cons_succ, i64_w, i32_w]
                    rfl
                  refine pure_ (i := 21) (N := some 41) (v := ?_) (a' := ?_) #[true, true, true, true, true, true, true, true, true, true, true, true, true, true, true, true, true, true, true, true, true, true, false, false, false, false, false, false, false, false] rfl rfl (by kernel_rfl) (fun _ _ _ h => h) (Or.inl ⟨by rfl, ?_⟩) ?_ ?_
                  rotate_left
                  · intro w'
                    go_simp
                    with_reducible rfl
                  rotate_left
                  · simp only [Act.put, List.setIfInBounds_toArray, List.set_cons_zero, List.set_cons_succ, i64_w, i32_w]
                    rfl
                  refine pure_ (i := 22) (N := some 42) (v := ?_) (a' := ?_) #[true, true, true, true, true, true, true, true, true, true, true, true, true, true, true, true, true, true, true, true, true, true, true, false, false, false, false, false, false, false] rfl rfl (by kernel_rfl) (fun _ _ _ h => h) (Or.inl ⟨by rfl, ?_⟩) ?_ ?_
                  rotate_left
                  · intro w'
                    go_simp
                    with_reducible rfl
                  rotate_left
                  · simp only [Act.put, List.setIfInBounds_toArray, List.set_cons_zero, List.set_cons_succ, i64_w, i32_w]
                    rfl
                  refine take_ (i := 23) (N := some 43) (v := ?_) (a' := ?_) #[true, true, true, true, true, true, true, true, true, true, true, true, true, true, true, true, true, true, true, true, true, true, true, true, false, false, false, false, false, false] rfl rfl (by kernel_rfl) (fun _ _ _ h => h) (Or.inl ⟨by rfl, ?_⟩) hHeld ?_ ?_
                  rotate_left
                  · rintro w' s0
                    obtain z1 := HP.out w' s0
                    go_simp
                    with_reducible rfl
                  rotate_left
                  · simp only [Act.put, List.setIfInBounds_toArray, List.set_cons_zero, List.set_cons_succ, i64_w, i32_w]
                    rfl
                  refine pure_ (i := 24) (N := some 44) (v := ?_) (a' := ?_) #[true, true, true, true, true, true, true, true, true, true, true, true, true, true, true, true, true, true, true, true, true, true, true, true, true, false, false, false, false, false] rfl rfl (by kernel_rfl) (fun _ _ _ h => h) (Or.inl ⟨by rfl, ?_⟩) ?_ ?_
                  rotate_left
                  · intro w'
                    go_simp
                    with_reducible rfl
                  rotate_left
                  · simp only [Act.put, List.setIfInBounds_toArray, List.set_cons_zero, List.set_cons_succ, i64_w, i32_w]
                    rfl
                  refine take_ (i := 25) (N := some 45) (v := ?_) (a' := ?_) #[true, true, true, true, true, true, true, true, true, true, true, true, true, true, true, true, true, true, true, true, true, true, true, true, true, true, false, false, false, false] rfl rfl (by kernel_rfl) (fun _ _ _ h => h) (Or.inl ⟨by rfl, ?_⟩) hHeld ?_ ?_
                  rotate_left
                  · rintro w' s0
                    obtain ⟨y0, y1⟩ := HM.out w' s0
                    go_simp
                    with_reducible rfl
                  rotate_left
                  · simp only [Act.put, List.setIfInBounds_toArray, List.set_cons_zero, List.set_cons_succ, i64_w, i32_w]
                    rfl
                  refine one_ (i := 26) (N := some 46) #[true, true, true, true, true, true, true, true, true, true, true, true, true, true, true, true, true, true, true, true, true, true, true, true, true, true, true, false, false, false] rfl rfl (by kernel_rfl) (by decide) (fun K hK => ?_)
                  refine goes_ Try.func85 (by kernel_rfl) rfl #[.slice Ap pe.length cp, .slice A1 ex.length c1] (by rfl) rfl rfl (by (try simp only [List.map_toArray, List.map_cons, List.map_nil]); first | done | rfl) ?_
                  refine (HCMP.out _ hHeld).mono ?_
                  rintro e2 w3 ⟨rfl, ⟨nd, rfl⟩⟩
                  refine ⟨_, rfl, ?_⟩
                  have hB := pw_below_drewN hHeld nd
                  refine hK.out _ _ hB (fun _ => ?_)
                  clear hK K hHeld
                  have hHeld := hB
                  clear hB
                  refine norm_ (a' := ?_) ?_ ?_
                  rotate_left
                  · show Act.put _ (some 46) _ = _
                    simp only [Act.put, List.setIfInBounds_toArray, List.set_cons_zero, List.set_cons_succ, i64_w, i32_w]
                    rfl
                  refine pure_ (i := 27) (N := some 47) (v := ?_) (a' := ?_) #[true, true, true, true, true, true, true, true, true, true, true, true, true, true, true, true, true, true, true, true, true, true, true, true, true, true, true, true, false, false] rfl rfl (by kernel_rfl) (fun _ _ _ h => h) (Or.inl ⟨by rfl, ?_⟩) ?_ ?_
                  rotate_left
                  · intro w'
                    go_simp
                    with_reducible rfl
                  rotate_left
                  · simp only [Act.put, List.setIfInBounds_toArray, List.set_cons_zero, List.set_cons_succ, i64_w, i32_w]
                    rfl
                  refine pure_ (i := 28) (N := some 48) (v := ?_) (a' := ?_) #[true, true, true, true, true, true, true, true, true, true, true, true, true, true, true, true, true, true, true, true, true, true, true, true, true, true, true, true, true, false] rfl rfl (by kernel_rfl) (fun _ _ _ h => h) (Or.inl ⟨by rfl, ?_⟩) ?_ ?_
                  rotate_left
                  · intro w'
                    go_simp
                    with_reducible rfl
                  rotate_left
                  · simp only [Act.put, List.setIfInBounds_toArray, List.set_cons_zero, List.set_cons_succ, i64_w, i32_w]
                    rfl
                  refine pure_ (i := 29) (N := some 49) (v := ?_) (a' := ?_) #[true, true, true, true, true, true, true, true, true, true, true, true, true, true, true, true, true, true, true, true, true, true, true, true, true, true, true, true, true, true] rfl rfl (by kernel_rfl) (fun _ _ _ h => h) (Or.inl ⟨by rfl, ?_⟩) ?_ ?_
                  rotate_left
                  · intro w'
                    go_simp
                    with_reducible rfl
                  rotate_left
                  · simp only [Act.put, List.setIfInBounds_toArray, List.set_cons_zero, List.set_cons_succ, i64_w, i32_w]
                    rfl
                  refine done_ (by kernel_rfl) ?_
                  clear hw1
                  have HH0 := Aside0.mk hHeld
                  clear hHeld
                  obtain ⟨W8, hW8⟩ : ∃ W8, W8 = W.drew.drewN nd := ⟨_, rfl⟩
                  rw [← hW8] at HH0 ⊢
                  have HH := HH0
                  clear HH0 hW8
                  have HE8 := Aside0.mk HC3.out
                  obtain ⟨ce, hce⟩ : ∃ ce, ce = cE ex := ⟨_, rfl⟩
                  have HCE := Aside0.mk hce
                  clear hce
                  have HC5 := Aside0.mk (fun (h0 : 0 < i) => show lessE (l[i - 1]'(by have := HLT.out; omega)).1 ex = true by rw [HPL.out]; exact HLS.out)
                  have HPRE := Aside0.mk (show ∀ m (hm : m < l.length), m < i → lessE (l[m]).1 ex = true from fun m hm h => by
                    rcases Nat.lt_or_ge m (i - 1) with h2 | h2
                    · have h3 := It.far (l := l.take i) (fun j hj => by
                        have hj2 : j < i := by have := List.length_take_le i l; omega
                        have hjl : j < l.length := by have := HLT.out; omega
                        have q := HI.out j hjl hj2
                        exact ⟨by rw [List.getElem_take]; exact q.lo, by rw [List.getElem_take]; exact q.hi, by rw [List.getElem_take]; exact q.len, by rw [List.getElem_take]; exact q.ex, fun h0 => by rw [List.getElem_take, List.getElem_take]; exact q.ord h0⟩) m (i - 1 - m - 1) (by rw [List.length_take]; have := HLT.out; omega)
                      rw [List.getElem_take, List.getElem_take] at h3
                      have e : m + (i - 1 - m - 1) + 1 = i - 1 := by omega
                      simp only [e] at h3
                      exact lessE_trans h3 (HC5.out HC4.out)
                    · obtain rfl : m = i - 1 := by omega
                      exact HC5.out HC4.out)
                  have y00 := HM.out W8 HH.out
                  obtain ⟨y0, y1⟩ := y00
                  have I8 := Aside0.mk (Kd.C_below I2.out HH.out)
                  obtain ⟨ad1, e1, _⟩ := Kd.at_int I8.out 0 (by omega) (by have := HE8.out; omega)
                  subst e1
                  have HM8 := Aside0.mk (fun (w' : World) (h : Below W8.heap.size W8 w') => HM.out w' (below_step HH.out h))
                  have HAR := Aside0.mk (fun (w' : World) (h : Below W8.heap.size W8 w') => ints_cells (Kd.C_below I8.out h))
                  clear HM
                  have HM := HM8
                  clear HM8
                  go_wp2
                  go_loopg [53] ex.length (fun kq v53 w3 => ∃ (j : Nat), v53 = .int .i64 (j : Int) ∧ Aside0 (kq + j = ex.length) ∧ Aside0 (ExTo ex j) ∧ W8 = w3)
                  case atStart => exact ⟨0, rfl, ⟨rfl⟩, ⟨fun m hm => absurd hm (by omega)⟩, rfl⟩
                  case round =>
                    obtain ⟨j, rfl, HK2, HX2, hw3⟩ := hrel
                    subst hw3
                    by_cases hj : j < ex.length
                    · have hjd : decide ((j : Int) < (ex.length : Int)) = true := decide_eq_true (by omega)
                      have hjn : decide (j < ex.length) = true := decide_eq_true hj
                      have qj : (j < ex.length) = True := eq_true hj
                      obtain ⟨ad2, e2, xj⟩ := Kd.at_int I8.out (j : Int) (by omega) (by omega)
                      cases e2
                      rw [rd_nat ex j hj] at xj
                      rw [Int.toNat_natCast] at xj
                      have HXN := Aside0.mk (fun (h : 0 ≤ ex[j] ∧ ex[j] ≤ 60) => show ExTo ex (j + 1) from fun m hm hml => by
                        rcases Nat.lt_or_ge m j with h2 | h2
                        · exact HX2.out m h2 hml
                        · obtain rfl : m = j := by omega
                          exact h)
                      have HXB := Aside0.mk (fun (h : It l i HLT.out) => HEXF.out h j (Nat.zero_le _) hj)
                      generalize ex[j] = n at xj HXN HXB
                      by_cases hn0 : n < 0
                      · have dn0 : decide (n < 0) = true := decide_eq_true hn0
                        have HN0 := Aside0.mk hn0
                        clear hn0 hj
                        go_wp2
                        go_ret2
                        exact ⟨below_step B2.out HH.out, .inr ⟨fun q => (by have h1 := (HXB.out (HNO.out q)).1; have h2 := HN0.out; omega), rfl⟩⟩
                      · have dn0 : decide (n < 0) = false := decide_eq_false hn0
                        have HN0 := Aside0.mk hn0
                        by_cases hn6 : n > 60
                        · have dn6 : decide (60 < n) = true := decide_eq_true hn6
                          have HN6 := Aside0.mk hn6
                          clear hn0 hn6 hj
                          go_wp2
                          go_ret2
                          exact ⟨below_step B2.out HH.out, .inr ⟨fun q => (by have h1 := (HXB.out (HNO.out q)).2; have h2 := HN6.out; omega), rfl⟩⟩
                        · have dn6 : decide (60 < n) = false := decide_eq_false hn6
                          have HXN2 := Aside0.mk (HXN.out ⟨by omega, by omega⟩)
                          have HJ := Aside0.mk hj
                          clear hn0 hn6 hj
                          go_wp2
                          go_roundg (ex.length - j - 1)
                          case measure => have := HK2.out; have := HJ.out; omega
                          case rel => exact ⟨j + 1, (by have := HE8.out; have := HJ.out; congr 1; unfold wrap64; omega), ⟨by have := HK2.out; have := HJ.out; omega⟩, HXN2, rfl⟩
                    · have hjd : decide ((j : Int) < (ex.length : Int)) = false := decide_eq_false (by omega)
                      have hjn : decide (j < ex.length) = false := decide_eq_false hj
                      have HEF := Aside0.mk (show ExFrom ex 0 from fun m _ hm => HX2.out m (by omega) hm)
                      have HOK := Aside0.mk (HIT.out HC1.out HC2.out HE8.out HEF.out HC5.out)
                      have HPUT := Aside0.mk (show ∀ w', Below W8.heap.size W8 w' → ∃ W2, (Instr.mapUpdate 65 (.map (some w.heap.size)) (.agg ce) (.int .i64 cf)).run Try.prog w' = .ok () W2 ∧ PM W2 w.heap.size (l.take (i + 1)) ∧ w'.grownBy W2 (some w.heap.size) from fun w' h => by
                        have hco : co (l.take i) ex = 0 := co_zero (fun t ht e => by
                          obtain ⟨m, hm, rfl⟩ := List.mem_iff_getElem.1 ht
                          have hm2 : m < i := by have := List.length_take_le i l; omega
                          have hml : m < l.length := by have := HLT.out; omega
                          rw [List.getElem_take] at e
                          have := HPRE.out m hml hm2
                          rw [e, lessE_irr] at this
                          cases this)
                        have hend : ins (l.take i) (ex, cf) = l.take (i + 1) := by
                          rw [ins_end, HTK.out]
                          intro t ht
                          obtain ⟨m, hm, rfl⟩ := List.mem_iff_getElem.1 ht
                          have hm2 : m < i := by have := List.length_take_le i l; omega
                          have hml : m < l.length := by have := HLT.out; omega
                          rw [List.getElem_take]
                          exact HPRE.out m hml hm2
                        have h1 := HC1.out
                        have h2 := HC2.out
                        obtain ⟨W2, q1, q2, q3⟩ := (PM_below (PM_below P2.out HH.out) h).put (by have := List.length_take_le i l; have := HLT.out; have := HN.out; omega) (e := ex) (exok_from HE8.out HEF.out) (c := cf) (by omega) (by rw [hco]; omega)
                        rw [hco, Int.zero_add] at q1
                        rw [hend] at q2
                        exact ⟨W2, by rw [HCE.out]; exact q1, q2, q3⟩)
                      have hu81 := Try.underlying81
                      have q8 : (ex.length < 8) = False := eq_false (by have := HE8.out; omega)
                      clear hj
                      go_wp2
                      generalize hW8 : W8 = W at HAR HM HPUT ⊢
                      refine start_ (n := 8) (S := fun w' => Below W.heap.size W w') (ds := [7]) #[false, false, false, false, false, false, false, false] (by kernel_rfl) rfl rfl (below_drew1 (Below.refl _ _)) (fun hHeld => ?_)
                      refine pure_ (i := 0) (N := some 64) (v := ?_) (a' := ?_) #[true, false, false, false, false, false, false, false] rfl rfl (by kernel_rfl) (fun _ _ _ h => h) (Or.inl ⟨by rfl, ?_⟩) ?_ ?_
                      rotate_left
                      · intro w'
                        go_simp
                        with_reducible rfl
                      rotate_left
                      · simp only [Act.put, List.setIfInBounds_toArray, List.set_cons_zero, List.set_cons_succ, i64_w, i32_w]
                        rfl
                      refine pure_ (i := 1) (N := some 65) (v := ?_) (a' := ?_) #[true, true, false, false, false, false, false, false] rfl rfl (by kernel_rfl) (fun _ _ _ h => h) (Or.inl ⟨by rfl, ?_⟩) ?_ ?_
                      rotate_left
                      · intro w'
                        go_simp
                        with_reducible rfl
                      rotate_left
                      · simp only [Act.put, List.setIfInBounds_toArray, List.set_cons_zero, List.set_cons_succ, i64_w, i32_w]
                        rfl
                      refine take_ (i := 2) (N := some 66) (v := ?_) (a' := ?_) #[true, true, true, false, false, false, false, false] rfl rfl (by kernel_rfl) (fun _ _ _ h => h) (Or.inl ⟨by rfl, ?_⟩) hHeld ?_ ?_
                      rotate_left
                      · rintro w' s0
                        obtain ⟨y0, y1⟩ := HM.out w' s0
                        go_simp
                        with_reducible rfl
                      rotate_left
                      · simp only [Act.put, List.setIfInBounds_toArray, List.set_cons_zero, List.set_cons_succ, i64_w, i32_w]
                        rfl
                      refine pure_ (i := 3) (N := some 67) (v := ?_) (a' := ?_) #[true, true, true, true, false, false, false, false] rfl rfl (by kernel_rfl) (fun _ _ _ h => h) (Or.inl ⟨by rfl, ?_⟩) ?_ ?_
                      rotate_left
                      · intro w'
                        refine arrAt_run (ty := 81) (x := .tmp 66) (A := some ad1) (c := c1) (k := ex.length) ?h1 ?h2 Try.underlying81 ?h3
                        case h1 => rfl
                        case h2 => rfl
                        case h3 => have := HE8.out; omega
                      rotate_left
                      · simp only [Act.put, List.setIfInBounds_toArray, List.set_cons_zero, List.set_cons_succ, i64_w, i32_w]
                        rfl
                      refine take_ (i := 4) (N := some 68) (v := ?_) (a' := ?_) #[true, true, true, true, true, false, false, false] rfl rfl (by kernel_rfl) (fun _ _ _ h => h) (Or.inl ⟨by rfl, ?_⟩) hHeld ?_ ?_
                      rotate_left
                      · rintro w' s0
                        obtain ⟨y0, y1⟩ := HM.out w' s0
                        refine arr_run (ty := 81) (x := .tmp 67) ?h1 ?h2 (HAR.out w' s0) ?h3 Try.underlying81 ?h4 HCE.out
                        case h1 => rfl
                        case h2 => rfl
                        case h3 => rfl
                        case h4 => rw [List.length_map, HE8.out]; kernel_rfl
                      rotate_left
                      · simp only [Act.put, List.setIfInBounds_toArray, List.set_cons_zero, List.set_cons_succ, i64_w, i32_w]
                        rfl
                      refine pure_ (i := 5) (N := some 69) (v := ?_) (a' := ?_) #[true, true, true, true, true, true, false, false] rfl rfl (by kernel_rfl) (fun _ _ _ h => h) (Or.inl ⟨by rfl, ?_⟩) ?_ ?_
                      rotate_left
                      · intro w'
                        go_simp
                        with_reducible rfl
                      rotate_left
                      · simp only [Act.put, List.setIfInBounds_toArray, List.set_cons_zero, List.set_cons_succ, i64_w, i32_w]
                        rfl
                      refine take_ (i := 6) (N := some 70) (v := ?_) (a' := ?_) #[true, true, true, true, true, true, true, false] rfl rfl (by kernel_rfl) (fun _ _ _ h => h) (Or.inl ⟨by rfl, ?_⟩) hHeld ?_ ?_
                      rotate_left
                      · rintro w' s0
                        obtain ⟨y0, y1⟩ := HM.out w' s0
                        go_simp
                        with_reducible rfl
                      rotate_left
                      · simp only [Act.put, List.setIfInBounds_toArray, List.set_cons_zero, List.set_cons_succ, i64_w, i32_w]
                        rfl
                      refine last_ (i := 7) (N := none) #[true, true, true, true, true, true, true, true] rfl rfl (by kernel_rfl) (by decide) (fun K hK => ?_)
                      obtain ⟨W2, hput, hpm, hgr⟩ := HPUT.out _ hHeld
                      refine skip_ (by rfl) rfl (w1 := W2) (by go_simp) ?_
                      refine hK.out _ _ ?_
                      clear hK K
                      refine done_ (by kernel_rfl) ?_
                      have HG := Aside0.mk hgr
                      have P9 := Aside0.mk hpm
                      have HH9 := Aside0.mk hHeld
                      clear hHeld hgr hpm hput
                      subst hW8
                      go_wp2
                      go_roundg (l.length - i - 1)
                      case measure => have := HK.out; have := HLT.out; omega
                      case rel =>
                        refine ⟨i + 1, (by have := HN.out; have := HLT.out; congr 1; unfold wrap64; omega), ⟨by have := HK.out; have := HLT.out; omega⟩, ⟨fun m hm h => ?_⟩, P9, ⟨?_⟩⟩
                        · rcases Nat.lt_or_ge m i with h2 | h2
                          · exact HI.out m hm h2
                          · obtain rfl : m = i := by omega
                            exact HOK.out
                        · have hb := below_step (below_step B2.out HH.out) HH9.out
                          exact hb.grown HG.out (Nat.le_trans hb.size (Nat.le_refl _)) (fun k e => by injection e with e; omega)
              · have HC4 := Aside0.mk h4
                clear h4
                have d4 : decide (0 < (i : Int)) = false := decide_eq_false (by have := HC4.out; omega)
                have d4n : (0 < i) = False := eq_false HC4.out
                refine start_ (n := 30) (S := fun w' => Below W.heap.size W w') (ds := []) #[false, false, false, false, false, false, false, false, false, false, false, false, false, false, false, false, false, false, false, false, false, false, false, false, false, false, false, false, false, false] (by kernel_rfl) rfl rfl (below_drew1 (Below.refl _ _)) (fun hHeld => ?_)
                refine pure_ (i := 0) (N := some 20) (v := ?_) (a' := ?_) #[true, false, false, false, false, false, false, false, false, false, false, false, false, false, false, false, false, false, false, false, false, false, false, false, false, false, false, false, false, false] rfl rfl (by kernel_rfl) (fun _ _ _ h => h) (Or.inl ⟨by rfl, ?_⟩) ?_ ?_
                rotate_left
                · intro w'
                  go_simp
                  with_reducible rfl
                rotate_left
                · simp only [Act.put, List.setIfInBounds_toArray, List.set_cons_zero, List.set_cons_succ, i64_w, i32_w]
                  rfl
                refine take_ (i := 1) (N := some 21) (v := ?_) (a' := ?_) #[true, true, false, false, false, false, false, false, false, false, false, false, false, false, false, false, false, false, false, false, false, false, false, false, false, false, false, false, false, false] rfl rfl (by kernel_rfl) (fun _ _ _ h => h) (Or.inl ⟨by rfl, ?_⟩) hHeld ?_ ?_
                rotate_left
                · rintro w' s0
                  obtain ⟨y0, y1⟩ := HM.out w' s0
                  go_simp
                  with_reducible rfl
                rotate_left
                · simp only [Act.put, List.setIfInBounds_toArray, List.set_cons_zero, List.set_cons_succ, i64_w, i32_w]
                  rfl
                refine pure_ (i := 2) (N := some 22) (v := ?_) (a' := ?_) #[true, true, true, false, false, false, false, false, false, false, false, false, false, false, false, false, false, false, false, false, false, false, false, false, false, false, false, false, false, false] rfl rfl (by kernel_rfl) (fun _ _ _ h => h) (Or.inl ⟨by rfl, ?_⟩) ?_ ?_
                rotate_left
                · intro w'
                  go_simp
                  with_reducible rfl
                rotate_left
                · simp only [Act.put, List.setIfInBounds_toArray, List.set_cons_zero, List.set_cons_succ, i64_w, i32_w]
                  rfl
                refine pure_ (i := 3) (N := some 23) (v := ?_) (a' := ?_) #[true, true, true, true, false, false, false, false, false, false, false, false, false, false, false, false, false, false, false, false, false, false, false, false, false, false, false, false, false, false] rfl rfl (by kernel_rfl) (fun _ _ _ h => h) (Or.inl ⟨by rfl, ?_⟩) ?_ ?_
                rotate_left
                · intro w'
                  go_simp
                  with_reducible rfl
                rotate_left
                · simp only [Act.put, List.setIfInBounds_toArray, List.set_cons_zero, List.set_cons_succ, i64_w, i32_w]
                  rfl
                refine pure_ (i := 4) (N := some 24) (v := ?_) (a' := ?_) #[true, true, true, true, true, false, false, false, false, false, false, false, false, false, false, false, false, false, false, false, false, false, false, false, false, false, false, false, false, false] rfl rfl (by kernel_rfl) (fun _ _ _ h => h) (Or.inl ⟨by rfl, ?_⟩) ?_ ?_
                rotate_left
                · intro w'
                  go_simp
                  with_reducible rfl
                rotate_left
                · simp only [Act.put, List.setIfInBounds_toArray, List.set_cons_zero, List.set_cons_succ, i64_w, i32_w]
                  rfl
                refine take_ (i := 5) (N := some 25) (v := ?_) (a' := ?_) #[true, true, true, true, true, true, false, false, false, false, false, false, false, false, false, false, false, false, false, false, false, false, false, false, false, false, false, false, false, false] rfl rfl (by kernel_rfl) (fun _ _ _ h => h) (Or.inl ⟨by rfl, ?_⟩) hHeld ?_ ?_
                rotate_left
                · rintro w' s0
                  obtain ⟨y0, y1⟩ := HM.out w' s0
                  go_simp
                  with_reducible rfl
                rotate_left
                · simp only [Act.put, List.setIfInBounds_toArray, List.set_cons_zero, List.set_cons_succ, i64_w, i32_w]
                  rfl
                refine pure_ (i := 6) (N := some 26) (v := ?_) (a' := ?_) #[true, true, true, true, true, true, true, false, false, false, false, false, false, false, false, false, false, false, false, false, false, false, false, false, false, false, false, false, false, false] rfl rfl (by kernel_rfl) (fun _ _ _ h => h) (Or.inl ⟨by rfl, ?_⟩) ?_ ?_
                rotate_left
                · intro w'
                  go_simp
                  with_reducible rfl
                rotate_left
                · simp only [Act.put, List.setIfInBounds_toArray, List.set_cons_zero, List.set_cons_succ, i64_w, i32_w]
                  rfl
                refine pure_ (i := 7) (N := some 27) (v := ?_) (a' := ?_) #[true, true, true, true, true, true, true, true, false, false, false, false, false, false, false, false, false, false, false, false, false, false, false, false, false, false, false, false, false, false] rfl rfl (by kernel_rfl) (fun _ _ _ h => h) (Or.inl ⟨by rfl, ?_⟩) ?_ ?_
                rotate_left
                · intro w'
                  go_simp
                  with_reducible rfl
                rotate_left
                · simp only [Act.put, List.setIfInBounds_toArray, List.set_cons_zero, List.set_cons_succ, i64_w, i32_w]
                  rfl
                refine pure_ (i := 8) (N := some 28) (v := ?_) (a' := ?_) #[true, true, true, true, true, true, true, true, true, false, false, false, false, false, false, false, false, false, false, false, false, false, false, false, false, false, false, false, false, false] rfl rfl (by kernel_rfl) (fun _ _ _ h => h) (Or.inl ⟨by rfl, ?_⟩) ?_ ?_
                rotate_left
                · intro w'
                  go_simp
                  with_reducible rfl
                rotate_left
                · simp only [Act.put, List.setIfInBounds_toArray, List.set_cons_zero, List.set_cons_succ, i64_w, i32_w]
                  rfl
                refine pure_ (i := 9) (N := some 29) (v := ?_) (a' := ?_) #[true, true, true, true, true, true, true, true, true, true, false, false, false, false, false, false, false, false, false, false, false, false, false, false, false, false, false, false, false, false] rfl rfl (by kernel_rfl) (fun _ _ _ h => h) (Or.inl ⟨by rfl, ?_⟩) ?_ ?_
                rotate_left
                · intro w'
                  go_simp
                  with_reducible rfl
                rotate_left
                · simp only [Act.put, List.setIfInBounds_toArray, List.set_cons_zero, List.set_cons_succ, i64_w, i32_w]
                  rfl
                refine take_ (i := 10) (N := some 30) (v := ?_) (a' := ?_) #[true, true, true, true, true, true, true, true, true, true, true, false, false, false, false, false, false, false, false, false, false, false, false, false, false, false, false, false, false, false] rfl rfl (by kernel_rfl) (fun _ _ _ h => h) (Or.inl ⟨by rfl, ?_⟩) hHeld ?_ ?_
                rotate_left
                · rintro w' s0
                  obtain ⟨y0, y1⟩ := HM.out w' s0
                  go_simp
                  with_reducible rfl
                rotate_left
                · simp only [Act.put, List.setIfInBounds_toArray, List.set_cons_zero, List.set_cons_succ, i64_w, i32_w]
                  rfl
                refine pure_ (i := 11) (N := some 31) (v := ?_) (a' := ?_) #[true, true, true, true, true, true, true, true, true, true, true, true, false, false, false, false, false, false, false, false, false, false, false, false, false, false, false, false, false, false] rfl rfl (by kernel_rfl) (fun _ _ _ h => h) (Or.inl ⟨by rfl, ?_⟩) ?_ ?_
                rotate_left
                · intro w'
                  go_simp
                  with_reducible rfl
                rotate_left
                · simp only [Act.put, List.setIfInBounds_toArray, List.set_cons_zero, List.set_cons_succ, i64_w, i32_w]
                  rfl
                refine pure_ (i := 12) (N := some 32) (v := ?_) (a' := ?_) #[true, true, true, true, true, true, true, true, true, true, true, true, true, false, false, false, false, false, false, false, false, false, false, false, false, false, false, false, false, false] rfl rfl (by kernel_rfl) (fun _ _ _ h => h) (Or.inl ⟨by rfl, ?_⟩) ?_ ?_
                rotate_left
                · intro w'
                  go_simp
                  with_reducible rfl
                rotate_left
                · simp only [Act.put, List.setIfInBounds_toArray, List.set_cons_zero, List.set_cons_succ, i64_w, i32_w]
                  rfl
                refine pure_ (i := 13) (N := some 33) (v := ?_) (a' := ?_) #[true, true, true, true, true, true, true, true, true, true, true, true, true, true, false, false, false, false, false, false, false, false, false, false, false, false, false, false, false, false] rfl rfl (by kernel_rfl) (fun _ _ _ h => h) (Or.inl ⟨by rfl, ?_⟩) ?_ ?_
                rotate_left
                · intro w'
                  go_simp
                  with_reducible rfl
                rotate_left
                · simp only [Act.put, List.setIfInBounds_toArray, List.set_cons_zero, List.set_cons_succ, i64_w, i32_w]
                  rfl
                refine pure_ (i := 14) (N := some 34) (v := ?_) (a' := ?_) #[true, true, true, true, true, true, true, true, true, true, true, true, true, true, true, false, false, false, false, false, false, false, false, false, false, false, false, false, false, false] rfl rfl (by kernel_rfl) (fun _ _ _ h => h) (Or.inl ⟨by rfl, ?_⟩) ?_ ?_
                rotate_left
                · intro w'
                  go_simp
                  with_reducible rfl
                rotate_left
                · simp only [Act.put, List.setIfInBounds_toArray, List.set_cons_zero, List.set_cons_succ, i64_w, i32_w]
                  rfl
                refine pure_ (i := 15) (N := some 35) (v := ?_) (a' := ?_) #[true, true, true, true, true, true, true, true, true, true, true, true, true, true, true, true, false, false, false, false, false, false, false, false, false, false, false, false, false, false] rfl rfl (by kernel_rfl) (fun _ _ _ h => h) (Or.inl ⟨by rfl, ?_⟩) ?_ ?_
                rotate_left
                · intro w'
                  go_simp
                  with_reducible rfl
                rotate_left
                · simp only [Act.put, List.setIfInBounds_toArray, List.set_cons_zero, List.set_cons_succ, i64_w, i32_w]
                  rfl
                refine pure_ (i := 16) (N := some 36) (v := ?_) (a' := ?_) #[true, true, true, true, true, true, true, true, true, true, true, true, true, true, true, true, true, false, false, false, false, false, false, false, false, false, false, false, false, false] rfl rfl (by kernel_rfl) (fun _ _ _ h => h) (Or.inl ⟨by rfl, ?_⟩) ?_ ?_
                rotate_left
                · intro w'
                  go_simp
                  with_reducible rfl
                rotate_left
                · simp only [Act.put, List.setIfInBounds_toArray, List.set_cons_zero, List.set_cons_succ, i64_w, i32_w]
                  rfl
                refine pure_ (i := 17) (N := some 37) (v := ?_) (a' := ?_) #[true, true, true, true, true, true, true, true, true, true, true, true, true, true, true, true, true, true, false, false, false, false, false, false, false, false, false, false, false, false] rfl rfl (by kernel_rfl) (fun _ _ _ h => h) (Or.inl ⟨by rfl, ?_⟩) ?_ ?_
                rotate_left
                · intro w'
                  go_simp
                  with_reducible rfl
                rotate_left
                · simp only [Act.put, List.setIfInBounds_toArray, List.set_cons_zero, List.set_cons_succ, i64_w, i32_w]
                  rfl
                refine pure_ (i := 18) (N := some 38) (v := undef) (a' := ?_) #[true, true, true, true, true, true, true, true, true, true, true, true, true, true, true, true, true, true, true, false, false, false, false, false, false, false, false, false, false, false] rfl rfl (by kernel_rfl) (fun _ _ _ h => h) (Or.inr ⟨by rfl, rfl⟩) ?_ ?_
                rotate_left
                · simp only [Act.put, List.setIfInBounds_toArray, List.set_cons_zero, List.set_cons_succ, i64_w, i32_w]
                  rfl
                refine pure_ (i := 19) (N := some 39) (v := undef) (a' := ?_) #[true, true, true, true, true, true, true, true, true, true, true, true, true, true, true, true, true, true, true, true, false, false, false, false, false, false, false, false, false, false] rfl rfl (by kernel_rfl) (fun _ _ _ h => h) (Or.inr ⟨by rfl, rfl⟩) ?_ ?_
                rotate_left
                · simp only [Act.put, List.setIfInBounds_toArray, List.set_cons_zero, List.set_cons_succ, i64_w, i32_w]
                  rfl
                refine pure_ (i := 20) (N := some 40) (v := undef) (a' := ?_) #[true, true, true, true, true, true, true, true, true, true, true, true, true, true, true, true, true, true, true, true, true, false, false, false, false, false, false, false, false, false] rfl rfl (by kernel_rfl) (fun _ _ _ h => h) (Or.inr ⟨by rfl, rfl⟩) ?_ ?_
                rotate_left
                · simp only [Act.put, List.setIfInBounds_toArray, List.set_cons_zero, List.set_cons_succ, i64_w, i32_w]
                  rfl
                refine pure_ (i := 21) (N := some 41) (v := undef) (a' := ?_) #[true, true, true, true, true, true, true, true, true, true, true, true, true, true, true, true, true, true, true, true, true, true, false, false, false, false, false, false, false, false] rfl rfl (by kernel_rfl) (fun _ _ _ h => h) (Or.inr ⟨by rfl, rfl⟩) ?_ ?_
                rotate_left
                · simp only [Act.put, List.setIfInBounds_toArray, List.set_cons_zero, List.set_cons_succ, i64_w, i32_w]
                  rfl
                refine pure_ (i := 22) (N := some 42) (v := undef) (a' := ?_) #[true, true, true, true, true, true, true, true, true, true, true, true, true, true, true, true, true, true, true, true, true, true, true, false, false, false, false, false, false, false] rfl rfl (by kernel_rfl) (fun _ _ _ h => h) (Or.inr ⟨by rfl, rfl⟩) ?_ ?_
                rotate_left
                · simp only [Act.put, List.setIfInBounds_toArray, List.set_cons_zero, List.set_cons_succ, i64_w, i32_w]
                  rfl
                refine pure_ (i := 23) (N := some 43) (v := undef) (a' := ?_) #[true, true, true, true, true, true, true, true, true, true, true, true, true, true, true, true, true, true, true, true, true, true, true, true, false, false, false, false, false, false] rfl rfl (by kernel_rfl) (fun _ _ _ h => h) (Or.inr ⟨by rfl, rfl⟩) ?_ ?_
                rotate_left
                · simp only [Act.put, List.setIfInBounds_toArray, List.set_cons_zero, List.set_cons_succ, i64_w, i32_w]
                  rfl
                refine pure_ (i := 24) (N := some 44) (v := undef) (a' := ?_) #[true, true, true, true, true, true, true, true, true, true, true, true, true, true, true, true, true, true, true, true, true, true, true, true, true, false, false, false, false, false] rfl rfl (by kernel_rfl) (fun _ _ _ h => h) (Or.inr ⟨by rfl, rfl⟩) ?_ ?_
                rotate_left
                · simp only [Act.put, List.setIfInBounds_toArray, List.set_cons_zero, List.set_cons_succ, i64_w, i32_w]
                  rfl
                refine pure_ (i := 25) (N := some 45) (v := undef) (a' := ?_) #[true, true, true, true, true, true, true, true, true, true, true, true, true, true, true, true, true, true, true, true, true, true, true, true, true, true, false, false, false, false] rfl rfl (by kernel_rfl) (fun _ _ _ h => h) (Or.inr ⟨by rfl, rfl⟩) ?_ ?_
                rotate_left
                · simp only [Act.put, List.setIfInBounds_toArray, List.set_cons_zero, List.set_cons_succ, i64_w, i32_w]
                  rfl
                refine pure_ (i := 26) (N := some 46) (v := undef) (a' := ?_) #[true, true, true, true, true, true, true, true, true, true, true, true, true, true, true, true, true, true, true, true, true, true, true, true, true, true, true, false, false, false] rfl rfl (by kernel_rfl) (fun _ _ _ h => h) (Or.inr ⟨by rfl, rfl⟩) ?_ ?_
                rotate_left
                · simp only [Act.put, List.setIfInBounds_toArray, List.set_cons_zero, List.set_cons_succ, i64_w, i32_w]
                  rfl
                refine pure_ (i := 27) (N := some 47) (v := undef) (a' := ?_) #[true, true, true, true, true, true, true, true, true, true, true, true, true, true, true, true, true, true, true, true, true, true, true, true, true, true, true, true, false, false] rfl rfl (by kernel_rfl) (fun _ _ _ h => h) (Or.inr ⟨by rfl, rfl⟩) ?_ ?_
                rotate_left
                · simp only [Act.put, List.setIfInBounds_toArray, List.set_cons_zero, List.set_cons_succ, i64_w, i32_w]
                  rfl
                refine pure_ (i := 28) (N := some 48) (v := ?_) (a' := ?_) #[true, true, true, true, true, true, true, true, true, true, true, true, true, true, true, true, true, true, true, true, true, true, true, true, true, true, true, true, true, false] rfl rfl (by kernel_rfl) (fun _ _ _ h => h) (Or.inl ⟨by rfl, ?_⟩) ?_ ?_
                rotate_left
                · intro w'
                  go_simp
                  with_reducible rfl
                rotate_left
                · simp only [Act.put, List.setIfInBounds_toArray, List.set_cons_zero, List.set_cons_succ, i64_w, i32_w]
                  rfl
                refine pure_ (i := 29) (N := some 49) (v := ?_) (a' := ?_) #[true, true, true, true, true, true, true, true, true, true, true, true, true, true, true, true, true, true, true, true, true, true, true, true, true, true, true, true, true, true] rfl rfl (by kernel_rfl) (fun _ _ _ h => h) (Or.inl ⟨by rfl, ?_⟩) ?_ ?_
                rotate_left
                · intro w'
                  go_simp
                  with_reducible rfl
                rotate_left
                · simp only [Act.put, List.setIfInBounds_toArray, List.set_cons_zero, List.set_cons_succ, i64_w, i32_w]
                  rfl
                refine done_ (by kernel_rfl) ?_
                have HH0 := Aside0.mk hHeld
                clear hHeld
                obtain ⟨W8, hW8⟩ : ∃ W8, W8 = W.drew := ⟨_, rfl⟩
                rw [← hW8] at HH0 ⊢
                have HH := HH0
                clear HH0 hW8
                have HE8 := Aside0.mk HC3.out
                obtain ⟨ce, hce⟩ : ∃ ce, ce = cE ex := ⟨_, rfl⟩
                have HCE := Aside0.mk hce
                clear hce
                have HC5 := Aside0.mk (fun (h0 : 0 < i) => show lessE (l[i - 1]'(by have := HLT.out; omega)).1 ex = true from absurd h0 HC4.out)
                have HPRE := Aside0.mk (show ∀ m (hm : m < l.length), m < i → lessE (l[m]).1 ex = true from fun m hm h => by
                  exact absurd (Nat.lt_of_le_of_lt (Nat.zero_le m) h) HC4.out)
                have y00 := HM.out W8 HH.out
                obtain ⟨y0, y1⟩ := y00
                have I8 := Aside0.mk (Kd.C_below I2.out HH.out)
                obtain ⟨ad1, e1, _⟩ := Kd.at_int I8.out 0 (by omega) (by have := HE8.out; omega)
                subst e1
                have HM8 := Aside0.mk (fun (w' : World) (h : Below W8.heap.size W8 w') => HM.out w' (below_step HH.out h))
                have HAR := Aside0.mk (fun (w' : World) (h : Below W8.heap.size W8 w') => ints_cells (Kd.C_below I8.out h))
                clear HM
                have HM := HM8
                clear HM8
                go_wp2
                go_loopg [53] ex.length (fun kq v53 w3 => ∃ (j : Nat), v53 = .int .i64 (j : Int) ∧ Aside0 (kq + j = ex.length) ∧ Aside0 (ExTo ex j) ∧ W8 = w3)
                case atStart => exact ⟨0, rfl, ⟨rfl⟩, ⟨fun m hm => absurd hm (by omega)⟩, rfl⟩
                case round =>
                  obtain ⟨j, rfl, HK2, HX2, hw3⟩ := hrel
                  subst hw3
                  by_cases hj : j < ex.length
                  · have hjd : decide ((j : Int) < (ex.length : Int)) = true := decide_eq_true (by omega)
                    have hjn : decide (j < ex.length) = true := decide_eq_true hj
                    have qj : (j < ex.length) = True := eq_true hj
                    obtain ⟨ad2, e2, xj⟩ := Kd.at_int I8.out (j : Int) (by omega) (by omega)
                    cases e2
                    rw [rd_nat ex j hj] at xj
                    rw [Int.toNat_natCast] at xj
                    have HXN := Aside0.mk (fun (h : 0 ≤ ex[j] ∧ ex[j] ≤ 60) => show ExTo ex (j + 1) from fun m hm hml => by
                      rcases Nat.lt_or_ge m j with h2 | h2
                      · exact HX2.out m h2 hml
                      · obtain rfl : m = j := by omega
                        exact h)
                    have HXB := Aside0.mk (fun (h : It l i HLT.out) => HEXF.out h j (Nat.zero_le _) hj)
                    generalize ex[j] = n at xj HXN HXB
                    by_cases hn0 : n < 0
                    · have dn0 : decide (n < 0) = true := decide_eq_true hn0
                      have HN0 := Aside0.mk hn0
                      clear hn0 hj
                      go_wp2
                      go_ret2
                      exact ⟨below_step B2.out HH.out, .inr ⟨fun q => (by have h1 := (HXB.out (HNO.out q)).1; have h2 := HN0.out; omega), rfl⟩⟩
                    · have dn0 : decide (n < 0) = false := decide_eq_false hn0
                      have HN0 := Aside0.mk hn0
                      by_cases hn6 : n > 60
                      · have dn6 : decide (60 < n) = true := decide_eq_true hn6
                        have HN6 := Aside0.mk hn6
                        clear hn0 hn6 hj
                        go_wp2
                        go_ret2
                        exact ⟨below_step B2.out HH.out, .inr ⟨fun q => (by have h1 := (HXB.out (HNO.out q)).2; have h2 := HN6.out; omega), rfl⟩⟩
                      · have dn6 : decide (60 < n) = false := decide_eq_false hn6
                        have HXN2 := Aside0.mk (HXN.out ⟨by omega, by omega⟩)
                        have HJ := Aside0.mk hj
                        clear hn0 hn6 hj
                        go_wp2
                        go_roundg (ex.length - j - 1)
                        case measure => have := HK2.out; have := HJ.out; omega
                        case rel => exact ⟨j + 1, (by have := HE8.out; have := HJ.out; congr 1; unfold wrap64; omega), ⟨by have := HK2.out; have := HJ.out; omega⟩, HXN2, rfl⟩
                  · have hjd : decide ((j : Int) < (ex.length : Int)) = false := decide_eq_false (by omega)
                    have hjn : decide (j < ex.length) = false := decide_eq_false hj
                    have HEF := Aside0.mk (show ExFrom ex 0 from fun m _ hm => HX2.out m (by omega) hm)
                    have HOK := Aside0.mk (HIT.out HC1.out HC2.out HE8.out HEF.out HC5.out)
                    have HPUT := Aside0.mk (show ∀ w', Below W8.heap.size W8 w' → ∃ W2, (Instr.mapUpdate 65 (.map (some w.heap.size)) (.agg ce) (.int .i64 cf)).run Try.prog w' = .ok () W2 ∧ PM W2 w.heap.size (l.take (i + 1)) ∧ w'.grownBy W2 (some w.heap.size) from fun w' h => by
                      have hco : co (l.take i) ex = 0 := co_zero (fun t ht e => by
                        obtain ⟨m, hm, rfl⟩ := List.mem_iff_getElem.1 ht
                        have hm2 : m < i := by have := List.length_take_le i l; omega
                        have hml : m < l.length := by have := HLT.out; omega
                        rw [List.getElem_take] at e
                        have := HPRE.out m hml hm2
                        rw [e, lessE_irr] at this
                        cases this)
                      have hend : ins (l.take i) (ex, cf) = l.take (i + 1) := by
                        rw [ins_end, HTK.out]
                        intro t ht
                        obtain ⟨m, hm, rfl⟩ := List.mem_iff_getElem.1 ht
                        have hm2 : m < i := by have := List.length_take_le i l; omega
                        have hml : m < l.length := by have := HLT.out; omega
                        rw [List.getElem_take]
                        exact HPRE.out m hml hm2
                      have h1 := HC1.out
                      have h2 := HC2.out
                      obtain ⟨W2, q1, q2, q3⟩ := (PM_below (PM_below P2.out HH.out) h).put (by have := List.length_take_le i l; have := HLT.out; have := HN.out; omega) (e := ex) (exok_from HE8.out HEF.out) (c := cf) (by omega) (by rw [hco]; omega)
                      rw [hco, Int.zero_add] at q1
                      rw [hend] at q2
                      exact ⟨W2, by rw [HCE.out]; exact q1, q2, q3⟩)
                    have hu81 := Try.underlying81
                    have q8 : (ex.length < 8) = False := eq_false (by have := HE8.out; omega)
                    clear hj
                    go_wp2
                    generalize hW8 : W8 = W at HAR HM HPUT ⊢
                    refine start_ (n := 8) (S := fun w' => Below W.heap.size W w') (ds := [7]) #[false, false, false, false, false, false, false, false] (by kernel_rfl) rfl rfl (below_drew1 (Below.refl _ _)) (fun hHeld => ?_)
                    refine pure_ (i := 0) (N := some 64) (v := ?_) (a' := ?_) #[true, false, false, false, false, false, false, false] rfl rfl (by kernel_rfl) (fun _ _ _ h => h) (Or.inl ⟨by rfl, ?_⟩) ?_ ?_
                    rotate_left
                    · intro w'
                      go_simp
                      with_reducible rfl
                    rotate_left
                    · simp only [Act.put, List.setIfInBounds_toArray, List.set_cons_zero, List.set_cons_succ, i64_w, i32_w]
                      rfl
                    refine pure_ (i := 1) (N := some 65) (v := ?_) (a' := ?_) #[true, true, false, false, false, false, false, false] rfl rfl (by kernel_rfl) (fun _ _ _ h => h) (Or.inl ⟨by rfl, ?_⟩) ?_ ?_
                    rotate_left
                    · intro w'
                      go_simp
                      with_reducible rfl
                    rotate_left
                    · simp only [Act.put, List.setIfInBounds_toArray, List.set_cons_zero, List.set_cons_succ, i64_w, i32_w]
                      rfl
                    refine take_ (i := 2) (N := some 66) (v := ?_) (a' := ?_) #[true, true, true, false, false, false, false, false] rfl rfl (by kernel_rfl) (fun _ _ _ h => h) (Or.inl ⟨by rfl, ?_⟩) hHeld ?_ ?_
                    rotate_left
                    · rintro w' s0
                      obtain ⟨y0, y1⟩ := HM.out w' s0
                      go_simp
                      with_reducible rfl
                    rotate_left
                    · simp only [Act.put, List.setIfInBounds_toArray, List.set_cons_zero, List.set_cons_succ, i64_w, i32_w]
                      rfl
                    refine pure_ (i := 3) (N := some 67) (v := ?_) (a' := ?_) #[true, true, true, true, false, false, false, false] rfl rfl (by kernel_rfl) (fun _ _ _ h => h) (Or.inl ⟨by rfl, ?_⟩) ?_ ?_
                    rotate_left
                    · intro w'
                      refine arrAt_run (ty := 81) (x := .tmp 66) (A := some ad1) (c := c1) (k := ex.length) ?h1 ?h2 Try.underlying81 ?h3
                      case h1 => rfl
                      case h2 => rfl
                      case h3 => have := HE8.out; omega
                    rotate_left
                    · simp only [Act.put, List.setIfInBounds_toArray, List.set_cons_zero, List.set_cons_succ, i64_w, i32_w]
                      rfl
                    refine take_ (i := 4) (N := some 68) (v := ?_) (a' := ?_) #[true, true, true, true, true, false, false, false] rfl rfl (by kernel_rfl) (fun _ _ _ h => h) (Or.inl ⟨by rfl, ?_⟩) hHeld ?_ ?_
                    rotate_left
                    · rintro w' s0
                      obtain ⟨y0, y1⟩ := HM.out w' s0
                      refine arr_run (ty := 81) (x := .tmp 67) ?h1 ?h2 (HAR.out w' s0) ?h3 Try.underlying81 ?h4 HCE.out
                      case h1 => rfl
                      case h2 => rfl
                      case h3 => rfl
                      case h4 => rw [List.length_map, HE8.out]; kernel_rfl
                    rotate_left
                    · simp only [Act.put, List.setIfInBounds_toArray, List.set_cons_zero, List.set_cons_succ, i64_w, i32_w]
                      rfl
                    refine pure_ (i := 5) (N := some 69) (v := ?_) (a' := ?_) #[true, true, true, true, true, true, false, false] rfl rfl (by kernel_rfl) (fun _ _ _ h => h) (Or.inl ⟨by rfl, ?_⟩) ?_ ?_
                    rotate_left
                    · intro w'
                      go_simp
                      with_reducible rfl
                    rotate_left
                    · simp only [Act.put, List.setIfInBounds_toArray, List.set_cons_zero, List.set_cons_succ, i64_w, i32_w]
                      rfl
                    refine take_ (i := 6) (N := some 70) (v := ?_) (a' := ?_) #[true, true, true, true, true, true, true, false] rfl rfl (by kernel_rfl) (fun _ _ _ h => h) (Or.inl ⟨by rfl, ?_⟩) hHeld ?_ ?_
                    rotate_left
                    · rintro w' s0
                      obtain ⟨y0, y1⟩ := HM.out w' s0
                      go_simp
                      with_reducible rfl
                    rotate_left
                    · simp only [Act.put, List.setIfInBounds_toArray, List.set_cons_zero, List.set_cons_succ, i64_w, i32_w]
                      rfl
                    refine last_ (i := 7) (N := none) #[true, true, true, true, true, true, true, true] rfl rfl (by kernel_rfl) (by decide) (fun K hK => ?_)
                    obtain ⟨W2, hput, hpm, hgr⟩ := HPUT.out _ hHeld
                    refine skip_ (by rfl) rfl (w1 := W2) (by go_simp) ?_
                    refine hK.out _ _ ?_
                    clear hK K
                    refine done_ (by kernel_rfl) ?_
                    have HG := Aside0.mk hgr
                    have P9 := Aside0.mk hpm
                    have HH9 := Aside0.mk hHeld
                    clear hHeld hgr hpm hput
                    subst hW8
                    go_wp2
                    go_roundg (l.length - i - 1)
                    case measure => have := HK.out; have := HLT.out; omega
                    case rel =>
                      refine ⟨i + 1, (by have := HN.out; have := HLT.out; congr 1; unfold wrap64; omega), ⟨by have := HK.out; have := HLT.out; omega⟩, ⟨fun m hm h => ?_⟩, P9, ⟨?_⟩⟩
                      · rcases Nat.lt_or_ge m i with h2 | h2
                        · exact HI.out m hm h2
                        · obtain rfl : m = i := by omega
                          exact HOK.out
                      · have hb := below_step (below_step B2.out HH.out) HH9.out
                        exact hb.grown HG.out (Nat.le_trans hb.size (Nat.le_refl _)) (fun k e => by injection e with e; omega)
            · have HC3 := Aside0.mk h3
              clear h3
              have d3 : (ex.length = 8) = False := eq_false HC3.out
              have d3i : ((ex.length : Int) = 8) = False := eq_false (by have := HC3.out; omega)
              have d3b : ((ex.length : Int) != 8) = true := bne_iff_ne.mpr (by have := HC3.out; omega)
              have d3c : ((ex.length : Int) == 8) = false := beq_eq_false_iff_ne.mpr (by have := HC3.out; omega)
              refine start_ (n := 30) (S := fun w' => Below W.heap.size W w') (ds := []) #[false, false, false, false, false, false, false, false, false, false, false, false, false, false, false, false, false, false, false, false, false, false, false, false, false, false, false, false, false, false] (by kernel_rfl) rfl rfl (below_drew1 (Below.refl _ _)) (fun hHeld => ?_)
              refine pure_ (i := 0) (N := some 20) (v := ?_) (a' := ?_) #[true, false, false, false, false, false, false, false, false, false, false, false, false, false, false, false, false, false, false, false, false, false, false, false, false, false, false, false, false, false] rfl rfl (by kernel_rfl) (fun _ _ _ h => h) (Or.inl ⟨by rfl, ?_⟩) ?_ ?_
              rotate_left
              · intro w'
                go_simp
                with_reducible rfl
              rotate_left
              · simp only [Act.put, List.setIfInBounds_toArray, List.set_cons_zero, List.set_cons_succ, i64_w, i32_w]
                rfl
              refine take_ (i := 1) (N := some 21) (v := ?_) (a' := ?_) #[true, true, false, false, false, false, false, false, false, false, false, false, false, false, false, false, false, false, false, false, false, false, false, false, false, false, false, false, false, false] rfl rfl (by kernel_rfl) (fun _ _ _ h => h) (Or.inl ⟨by rfl, ?_⟩) hHeld ?_ ?_
              rotate_left
              · rintro w' s0
                obtain ⟨y0, y1⟩ := HM.out w' s0
                go_simp
                with_reducible rfl
              rotate_left
              · simp only [Act.put, List.setIfInBounds_toArray, List.set_cons_zero, List.set_cons_succ, i64_w, i32_w]
                rfl
              refine pure_ (i := 2) (N := some 22) (v := ?_) (a' := ?_) #[true, true, true, false, false, false, false, false, false, false, false, false, false, false, false, false, false, false, false, false, false, false, false, false, false, false, false, false, false, false] rfl rfl (by kernel_rfl) (fun _ _ _ h => h) (Or.inl ⟨by rfl, ?_⟩) ?_ ?_
              rotate_left
              · intro w'
                go_simp
                with_reducible rfl
              rotate_left
              · simp only [Act.put, List.setIfInBounds_toArray, List.set_cons_zero, List.set_cons_succ, i64_w, i32_w]
                rfl
              refine pure_ (i := 3) (N := some 23) (v := ?_) (a' := ?_) #[true, true, true, true, false, false, false, false, false, false, false, false, false, false, false, false, false, false, false, false, false, false, false, false, false, false, false, false, false, false] rfl rfl (by kernel_rfl) (fun _ _ _ h => h) (Or.inl ⟨by rfl, ?_⟩) ?_ ?_
              rotate_left
              · intro w'
                go_simp
                with_reducible rfl
              rotate_left
              · simp only [Act.put, List.setIfInBounds_toArray, List.set_cons_zero, List.set_cons_succ, i64_w, i32_w]
                rfl
              refine pure_ (i := 4) (N := some 24) (v := ?_) (a' := ?_) #[true, true, true, true, true, false, false, false, false, false, false, false, false, false, false, false, false, false, false, false, false, false, false, false, false, false, false, false, false, false] rfl rfl (by kernel_rfl) (fun _ _ _ h => h) (Or.inl ⟨by rfl, ?_⟩) ?_ ?_
              rotate_left
              · intro w'
                go_simp
                with_reducible rfl
              rotate_left
              · simp only [Act.put, List.setIfInBounds_toArray, List.set_cons_zero, List.set_cons_succ, i64_w, i32_w]
                rfl
              refine take_ (i := 5) (N := some 25) (v := ?_) (a' := ?_) #[true, true, true, true, true, true, false, false, false, false, false, false, false, false, false, false, false, false, false, false, false, false, false, false, false, false, false, false, false, false] rfl rfl (by kernel_rfl) (fun _ _ _ h => h) (Or.inl ⟨by rfl, ?_⟩) hHeld ?_ ?_
              rotate_left
              · rintro w' s0
                obtain ⟨y0, y1⟩ := HM.out w' s0
                go_simp
                with_reducible rfl
              rotate_left
              · simp only [Act.put, List.setIfInBounds_toArray, List.set_cons_zero, List.set_cons_succ, i64_w, i32_w]
                rfl
              refine pure_ (i := 6) (N := some 26) (v := ?_) (a' := ?_) #[true, true, true, true, true, true, true, false, false, false, false, false, false, false, false, false, false, false, false, false, false, false, false, false, false, false, false, false, false, false] rfl rfl (by kernel_rfl) (fun _ _ _ h => h) (Or.inl ⟨by rfl, ?_⟩) ?_ ?_
              rotate_left
              · intro w'
                go_simp
                with_reducible rfl
              rotate_left
              · simp only [Act.put, List.setIfInBounds_toArray, List.set_cons_zero, List.set_cons_succ, i64_w, i32_w]
                rfl
              refine pure_ (i := 7) (N := some 27) (v := ?_) (a' := ?_) #[true, true, true, true, true, true, true, true, false, false, false, false, false, false, false, false, false, false, false, false, false, false, false, false, false, false, false, false, false, false] rfl rfl (by kernel_rfl) (fun _ _ _ h => h) (Or.inl ⟨by rfl, ?_⟩) ?_ ?_
              rotate_left
              · intro w'
                go_simp
                with_reducible rfl
              rotate_left
              · simp only [Act.put, List.setIfInBounds_toArray, List.set_cons_zero, List.set_cons_succ, i64_w, i32_w]
                rfl
              refine pure_ (i := 8) (N := some 28) (v := ?_) (a' := ?_) #[true, true, true, true, true, true, true, true, true, false, false, false, false, false, false, false, false, false, false, false, false, false, false, false, false, false, false, false, false, false] rfl rfl (by kernel_rfl) (fun _ _ _ h => h) (Or.inl ⟨by rfl, ?_⟩) ?_ ?_
              rotate_left
              · intro w'
                go_simp
                with_reducible rfl
              rotate_left
              · simp only [Act.put, List.setIfInBounds_toArray, List.set_cons_zero, List.set_cons_succ, i64_w, i32_w]
                rfl
              refine pure_ (i := 9) (N := some 29) (v := ?_) (a' := ?_) #[true, true, true, true, true, true, true, true, true, true, false, false, false, false, false, false, false, false, false, false, false, false, false, false, false, false, false, false, false, false] rfl rfl (by kernel_rfl) (fun _ _ _ h => h) (Or.inl ⟨by rfl, ?_⟩) ?_ ?_
              rotate_left
              · intro w'
                go_simp
                with_reducible rfl
              rotate_left
              · simp only [Act.put, List.setIfInBounds_toArray, List.set_cons_zero, List.set_cons_succ, i64_w, i32_w]
                rfl
              refine take_ (i := 10) (N := some 30) (v := ?_) (a' := ?_) #[true, true, true, true, true, true, true, true, true, true, true, false, false, false, false, false, false, false, false, false, false, false, false, false, false, false, false, false, false, false] rfl rfl (by kernel_rfl) (fun _ _ _ h => h) (Or.inl ⟨by rfl, ?_⟩) hHeld ?_ ?_
              rotate_left
              · rintro w' s0
                obtain ⟨y0, y1⟩ := HM.out w' s0
                go_simp
                with_reducible rfl
              rotate_left
              · simp only [Act.put, List.setIfInBounds_toArray, List.set_cons_zero, List.set_cons_succ, i64_w, i32_w]
                rfl
              refine pure_ (i := 11) (N := some 31) (v := ?_) (a' := ?_) #[true, true, true, true, true, true, true, true, true, true, true, true, false, false, false, false, false, false, false, false, false, false, false, false, false, false, false, false, false, false] rfl rfl (by kernel_rfl) (fun _ _ _ h => h) (Or.inl ⟨by rfl, ?_⟩) ?_ ?_
              rotate_left
              · intro w'
                go_simp
                with_reducible rfl
              rotate_left
              · simp only [Act.put, List.setIfInBounds_toArray, List.set_cons_zero, List.set_cons_succ, i64_w, i32_w]
                rfl
              refine pure_ (i := 12) (N := some 32) (v := ?_) (a' := ?_) #[true, true, true, true, true, true, true, true, true, true, true, true, true, false, false, false, false, false, false, false, false, false, false, false, false, false, false, false, false, false] rfl rfl (by kernel_rfl) (fun _ _ _ h => h) (Or.inl ⟨by rfl, ?_⟩) ?_ ?_
              rotate_left
              · intro w'
                go_simp
                with_reducible rfl
              rotate_left
              · simp only [Act.put, List.setIfInBounds_toArray, List.set_cons_zero, List.set_cons_succ, i64_w, i32_w]
                rfl
              refine pure_ (i := 13) (N := some 33) (v := ?_) (a' := ?_) #[true, true, true, true, true, true, true, true, true, true, true, true, true, true, false, false, false, false, false, false, false, false, false, false, false, false, false, false, false, false] rfl rfl (by kernel_rfl) (fun _ _ _ h => h) (Or.inl ⟨by rfl, ?_⟩) ?_ ?_
              rotate_left
              · intro w'
                go_simp
                with_reducible rfl
              rotate_left
              · simp only [Act.put, List.setIfInBounds_toArray, List.set_cons_zero, List.set_cons_succ, i64_w, i32_w]
                rfl
              refine pure_ (i := 14) (N := some 34) (v := ?_) (a' := ?_) #[true, true, true, true, true, true, true, true, true, true, true, true, true, true, true, false, false, false, false, false, false, false, false, false, false, false, false, false, false, false] rfl rfl (by kernel_rfl) (fun _ _ _ h => h) (Or.inl ⟨by rfl, ?_⟩) ?_ ?_
              rotate_left
              · intro w'
                go_simp
                with_reducible rfl
              rotate_left
              · simp only [Act.put, List.setIfInBounds_toArray, List.set_cons_zero, List.set_cons_succ, i64_w, i32_w]
                rfl
              refine pure_ (i := 15) (N := some 35) (v := undef) (a' := ?_) #[true, true, true, true, true, true, true, true, true, true, true, true, true, true, true, true, false, false, false, false, false, false, false, false, false, false, false, false, false, false] rfl rfl (by kernel_rfl) (fun _ _ _ h => h) (Or.inr ⟨by rfl, rfl⟩) ?_ ?_
              rotate_left
              · simp only [Act.put, List.setIfInBounds_toArray, List.set_cons_zero, List.set_cons_succ, i64_w, i32_w]
                rfl
              refine pure_ (i := 16) (N := some 36) (v := undef) (a' := ?_) #[true, true, true, true, true, true, true, true, true, true, true, true, true, true, true, true, true, false, false, false, false, false, false, false, false, false, false, false, false, false] rfl rfl (by kernel_rfl) (fun _ _ _ h => h) (Or.inr ⟨by rfl, rfl⟩) ?_ ?_
              rotate_left
              · simp only [Act.put, List.setIfInBounds_toArray, List.set_cons_zero, List.set_cons_succ, i64_w, i32_w]
                rfl
              refine pure_ (i := 17) (N := some 37) (v := undef) (a' := ?_) #[true, true, true, true, true, true, true, true, true, true, true, true, true, true, true, true, true, true, false, false, false, false, false, false, false, false, false, false, false, false] rfl rfl (by kernel_rfl) (fun _ _ _ h => h) (Or.inr ⟨by rfl, rfl⟩) ?_ ?_
              rotate_left
              · simp only [Act.put, List.setIfInBounds_toArray, List.set_cons_zero, List.set_cons_succ, i64_w, i32_w]
                rfl
              refine pure_ (i := 18) (N := some 38) (v := undef) (a' := ?_) #[true, true, true, true, true, true, true, true, true, true, true, true, true, true, true, true, true, true, true, false, false, false, false, false, false, false, false, false, false, false] rfl rfl (by kernel_rfl) (fun _ _ _ h => h) (Or.inr ⟨by rfl, rfl⟩) ?_ ?_
              rotate_left
              · simp only [Act.put, List.setIfInBounds_toArray, List.set_cons_zero, List.set_cons_succ, i64_w, i32_w]
                rfl
              refine pure_ (i := 19) (N := some 39) (v := undef) (a' := ?_) #[true, true, true, true, true, true, true, true, true, true, true, true, true, true, true, true, true, true, true, true, false, false, false, false, false, false, false, false, false, false] rfl rfl (by kernel_rfl) (fun _ _ _ h => h) (Or.inr ⟨by rfl, rfl⟩) ?_ ?_
              rotate_left
              · simp only [Act.put, List.setIfInBounds_toArray, List.set_cons_zero, List.set_cons_succ, i64_w, i32_w]
                rfl
              refine pure_ (i := 20) (N := some 40) (v := undef) (a' := ?_) #[true, true, true, true, true, true, true, true, true, true, true, true, true, true, true, true, true, true, true, true, true, false, false, false, false, false, false, false, false, false] rfl rfl (by kernel_rfl) (fun _ _ _ h => h) (Or.inr ⟨by rfl, rfl⟩) ?_ ?_
              rotate_left
              · simp only [Act.put, List.setIfInBounds_toArray, List.set_cons_zero, List.set_cons_succ, i64_w, i32_w]
                rfl
              refine pure_ (i := 21) (N := some 41) (v := undef) (a' := ?_) #[true, true, true, true, true, true, true, true, true, true, true, true, true, true, true, true, true, true, true, true, true, true, false, false, false, false, false, false, false, false] rfl rfl (by kernel_rfl) (fun _ _ _ h => h) (Or.inr ⟨by rfl, rfl⟩) ?_ ?_
              rotate_left
              · simp only [Act.put, List.setIfInBounds_toArray, List.set_cons_zero, List.set_cons_succ, i64_w, i32_w]
                rfl
              refine pure_ (i := 22) (N := some 42) (v := undef) (a' := ?_) #[true, true, true, true, true, true, true, true, true, true, true, true, true, true, true, true, true, true, true, true, true, true, true, false, false, false, false, false, false, false] rfl rfl (by kernel_rfl) (fun _ _ _ h => h) (Or.inr ⟨by rfl, rfl⟩) ?_ ?_
              rotate_left
              · simp only [Act.put, List.setIfInBounds_toArray, List.set_cons_zero, List.set_cons_succ, i64_w, i32_w]
                rfl
              refine pure_ (i := 23) (N := some 43) (v := undef) (a' := ?_) #[true, true, true, true, true, true, true, true, true, true, true, true, true, true, true, true, true, true, true, true, true, true, true, true, false, false, false, false, false, false] rfl rfl (by kernel_rfl) (fun _ _ _ h => h) (Or.inr ⟨by rfl, rfl⟩) ?_ ?_
              rotate_left
              · simp only [Act.put, List.setIfInBounds_toArray, List.set_cons_zero, List.set_cons_succ, i64_w, i32_w]
                rfl
              refine pure_ (i := 24) (N := some 44) (v := undef) (a' := ?_) #[true, true, true, true, true, true, true, true, true, true, true, true, true, true, true, true, true, true, true, true, true, true, true, true, true, false, false, false, false, false] rfl rfl (by kernel_rfl) (fun _ _ _ h => h) (Or.inr ⟨by rfl, rfl⟩) ?_ ?_
              rotate_left
              · simp only [Act.put, List.setIfInBounds_toArray, List.set_cons_zero, List.set_cons_succ, i64_w, i32_w]
                rfl
              refine pure_ (i := 25) (N := some 45) (v := undef) (a' := ?_) #[true, true, true, true, true, true, true, true, true, true, true, true, true, true, true, true, true, true, true, true, true, true, true, true, true, true, false, false, false, false] rfl rfl (by kernel_rfl) (fun _ _ _ h => h) (Or.inr ⟨by rfl, rfl⟩) ?_ ?_
              rotate_left
              · simp only [Act.put, List.setIfInBounds_toArray, List.set_cons_zero, List.set_cons_succ, i64_w, i32_w]
                rfl
              refine pure_ (i := 26) (N := some 46) (v := undef) (a' := ?_) #[true, true, true, true, true, true, true, true, true, true, true, true, true, true, true, true, true, true, true, true, true, true, true, true, true, true, true, false, false, false] rfl rfl (by kernel_rfl) (fun _ _ _ h => h) (Or.inr ⟨by rfl, rfl⟩) ?_ ?_
              rotate_left
              · simp only [Act.put, List.setIfInBounds_toArray, List.set_cons_zero, List.set_cons_succ, i64_w, i32_w]
                rfl
              refine pure_ (i := 27) (N := some 47) (v := undef) (a' := ?_) #[true, true, true, true, true, true, true, true, true, true, true, true, true, true, true, true, true, true, true, true, true, true, true, true, true, true, true, true, false, false] rfl rfl (by kernel_rfl) (fun _ _ _ h => h) (Or.inr ⟨by rfl, rfl⟩) ?_ ?_
              rotate_left
              · simp only [Act.put, List.setIfInBounds_toArray, List.set_cons_zero, List.set_cons_succ, i64_w, i32_w]
                rfl
              refine pure_ (i := 28) (N := some 48) (v := undef) (a' := ?_) #[true, true, true, true, true, true, true, true, true, true, true, true, true, true, true, true, true, true, true, true, true, true, true, true, true, true, true, true, true, false] rfl rfl (by kernel_rfl) (fun _ _ _ h => h) (Or.inr ⟨by rfl, rfl⟩) ?_ ?_
              rotate_left
              · simp only [Act.put, List.setIfInBounds_toArray, List.set_cons_zero, List.set_cons_succ, i64_w, i32_w]
                rfl
              refine pure_ (i := 29) (N := some 49) (v := ?_) (a' := ?_) #[true, true, true, true, true, true, true, true, true, true, true, true, true, true, true, true, true, true, true, true, true, true, true, true, true, true, true, true, true, true] rfl rfl (by kernel_rfl) (fun _ _ _ h => h) (Or.inl ⟨by rfl, ?_⟩) ?_ ?_
              rotate_left
              · intro w'
                go_simp
                with_reducible rfl
              rotate_left
              · simp only [Act.put, List.setIfInBounds_toArray, List.set_cons_zero, List.set_cons_succ, i64_w, i32_w]
                rfl
              refine done_ (by kernel_rfl) ?_
              have HH := Aside0.mk hHeld
              clear hHeld
              go_wp2
              go_ret2
              exact ⟨below_step B2.out HH.out, .inr ⟨fun q => HC3.out (HLEN.out (HNO.out q)), rfl⟩⟩
      · have hdx : decide ((i : Int) < (l.length : Int)) = false := decide_eq_false (by omega)
        have hdn : decide (i < l.length) = false := decide_eq_false hlt
        have HGE := Aside0.mk hlt
        clear hlt
        go_wp2
        go_ret2
        refine ⟨B1.out, .inl ⟨nfe_of HN.out (fun j hj => HI.out j hj (by have := HGE.out; omega)), w.heap.size, rfl, ?_⟩⟩
        have := P1.out
        rwa [List.take_of_length_le (by have := HGE.out; omega)] at this
  · have hnd : decide (200 < (l.length : Int)) = true := decide_eq_true (by omega)
    have hnd2 : decide (200 < l.length) = true := decide_eq_true (by omega)
    go_wp2
    go_ret2
    exact ⟨below_alloc (Below.refl _ _) _, .inr ⟨fun h => hn h.len, rfl⟩⟩
/-- What Add and Mul answer. -/
def AdR (F : Po → Po → Option Po) (x y : Po) (r : Po) (n : Int) : Prop := (¬ (NfE x ∧ NfE y) ∧ r = [] ∧ n = 4) ∨ (NfE x ∧ NfE y ∧ F x y = none ∧ r = [] ∧ n = 2) ∨ (NfE x ∧ NfE y ∧ F x y = some r ∧ NfE r ∧ n = 0)
theorem AdR.ex {F : Po → Po → Option Po} (hF : ∀ x y l, NfE x → NfE y → F x y = some l → NfE l) (x y : Po) : ∃ r n, AdR F x y r n := by
  by_cases h : NfE x ∧ NfE y
  · cases e : F x y with
    | none => exact ⟨[], 2, .inr (.inl ⟨h.1, h.2, e, rfl, rfl⟩)⟩
    | some l => exact ⟨l, 0, .inr (.inr ⟨h.1, h.2, e, hF x y l h.1 h.2 e, rfl⟩)⟩
  · exact ⟨[], 4, .inl ⟨h, rfl, rfl⟩⟩
theorem AdR.len {F : Po → Po → Option Po} {x y r : Po} {n : Int} (h : AdR F x y r n) : (∀ t ∈ r, t.1.length = 8) ∧ r.length ≤ 200 := by
  rcases h with ⟨_, rfl, _⟩ | ⟨_, _, _, rfl, _⟩ | ⟨_, _, _, h, _⟩
  · exact ⟨fun t h => (by cases h), by simp⟩
  · exact ⟨fun t h => (by cases h), by simp⟩
  · exact ⟨h.nf.len, h.len⟩
theorem AdR.bad {F : Po → Po → Option Po} {x y r : Po} {n : Int} (h : AdR F x y r n) (k : ¬ (NfE x ∧ NfE y)) : r = [] ∧ n = 4 := by
  rcases h with ⟨_, h⟩ | ⟨h1, h2, _⟩ | ⟨h1, h2, _⟩
  · exact h
  · exact absurd ⟨h1, h2⟩ k
  · exact absurd ⟨h1, h2⟩ k
theorem AdR.none {F : Po → Po → Option Po} {x y r : Po} {n : Int} (h : AdR F x y r n) (h1 : NfE x) (h2 : NfE y) (k : F x y = none) : r = [] ∧ n = 2 := by
  rcases h with ⟨h, _⟩ | ⟨_, _, _, h⟩ | ⟨_, _, h, _⟩
  · exact absurd ⟨h1, h2⟩ h
  · exact h
  · rw [k] at h; cases h
theorem AdR.some {F : Po → Po → Option Po} {x y r l : Po} {n : Int} (h : AdR F x y r n) (h1 : NfE x) (h2 : NfE y) (k : F x y = some l) : r = l ∧ n = 0 ∧ NfE l := by
  rcases h with ⟨h, _⟩ | ⟨_, _, h, _⟩ | ⟨_, _, h, h3, h4⟩
  · exact absurd ⟨h1, h2⟩ h
  · rw [k] at h; cases h
  · rw [k] at h; cases h
    exact ⟨rfl, h4, h3⟩
theorem addL_j0 {x y : Po} (b : Bool) {r : Po} {n : Int} (h1 : b = true → r = [] ∧ n = 4) (h2 : b = false → NfE x ∧ NfE y) (h : AdR addF x y r n) : Ev (fun k => tenetref24_Add.j0 k (toL x) (toL y) b) (toL r, n) := by
  refine Ev.step (fun k => tenetref24_Add.j0.eq_2 ..) ?_
  cases b with
  | true =>
    obtain ⟨rfl, rfl⟩ := h1 rfl
    simp only [if_true]
    exact Ev.now _
  | false =>
    obtain ⟨hx, hy⟩ := h2 rfl
    simp only [Bool.false_eq_true, if_false]
    have HA := Aside0.mk (add_ev hx.nf hx.top hx.len hy.terms hy.len)
    have HO := out_few (intoAll x y)
    cases e : addF x y with
    | none =>
      obtain ⟨rfl, rfl⟩ := h.none hx hy e
      refine Ev.bind HA.out ?_
      have hb : (outA (intoAll x y)).2 = false := by rw [HO.1]; show (addF x y).isSome = false; rw [e]; rfl
      simp only [hb, Bool.false_eq_true, if_false]
      exact Ev.now _
    | some l =>
      obtain ⟨rfl, rfl, hl⟩ := h.some hx hy e
      have HC := Aside0.mk (copied_ev (l := r) (fun t ht => by rw [hl.nf.len t ht]; omega) (by have := hl.len; omega))
      refine Ev.bind HA.out ?_
      have hb : (outA (intoAll x y)).2 = true := by rw [HO.1]; show (addF x y).isSome = true; rw [e]; rfl
      have hl2 : (outA (intoAll x y)).1 = toL r := HO.2 r e
      simp only [hb, hl2, if_true]
      refine Ev.bind HC.out ?_
      exact Ev.now _
theorem addL_ev {x y : Po} {r : Po} {n : Int} (h : AdR addF x y r n) : Ev (fun k => tenetref24_Add.f k (toL x) (toL y)) (toL r, n) := by
  obtain ⟨a, ha, ea⟩ := is_ev x
  obtain ⟨b, hb, eb⟩ := is_ev y
  have HA := Aside0.mk ea
  have HB := Aside0.mk eb
  simp only [tenetref24_Add.f]
  refine Ev.bind HA.out ?_
  cases a with
  | false =>
    have hno : ¬ NfE x := fun q => by have := ha.2 q; cases this
    simp only [Bool.false_eq_true, if_false]
    exact addL_j0 true (fun _ => h.bad (fun q => hno q.1)) (fun q => (by cases q)) h
  | true =>
    have hx := ha.1 rfl
    simp only [if_true]
    refine Ev.bind HB.out ?_
    cases b with
    | false =>
      have hno : ¬ NfE y := fun q => by have := hb.2 q; cases this
      exact addL_j0 true (fun _ => h.bad (fun q => hno q.2)) (fun q => (by cases q)) h
    | true => exact addL_j0 false (fun q => (by cases q)) (fun _ => ⟨hx, hb.1 rfl⟩) h
/-- How Add and Mul are called. -/
theorem addLR_calls {x y : Po} {r : Po} {n : Int} (h : AdR addF x y r n) (A B : Option Addr) (c d : Nat) (w : World) (hA : Kd.C k74 w A x.length (toL x)) (hc : x.length ≤ c) (hB : Kd.C k74 w B y.length (toL y)) (hd : y.length ≤ d) :
    Calls Try.prog 41 #[.slice A x.length c, .slice B y.length d] w fun e w' => RetM w' r n e ∧ Below w.heap.size w w' := by
  obtain ⟨k, hk⟩ := addL_ev h
  have e1 : (toL x).length = x.length := by simp [toL]
  have e2 : (toL y).length = y.length := by simp [toL]
  have hq := tenetref24_Add.calls k A c (toL x) B d (toL y) (toL r) n w (by rw [e1]; exact hA) (by rw [e1]; exact hc) (by rw [e2]; exact hB) (by rw [e2]; exact hd) (hk k (Nat.le_refl _))
  rw [e1, e2] at hq
  refine hq.mono ?_
  rintro e w' ⟨v, rfl, hS, hb⟩
  obtain ⟨A2, c2, rfl, hc2, hC⟩ := Kd.R_reads (Kd.S_R hS)
  have e3 : (toL r).length = r.length := by simp [toL]
  rw [e3] at hc2 hC
  exact ⟨⟨A2, c2, by rw [e3], hc2, hC⟩, hb⟩
theorem mulL_j0 {x y : Po} (b : Bool) {r : Po} {n : Int} (h1 : b = true → r = [] ∧ n = 4) (h2 : b = false → NfE x ∧ NfE y) (h : AdR mulF x y r n) : Ev (fun k => tenetref24_Mul.j0 k (toL x) (toL y) b) (toL r, n) := by
  refine Ev.step (fun k => tenetref24_Mul.j0.eq_2 ..) ?_
  cases b with
  | true =>
    obtain ⟨rfl, rfl⟩ := h1 rfl
    simp only [if_true]
    exact Ev.now _
  | false =>
    obtain ⟨hx, hy⟩ := h2 rfl
    simp only [Bool.false_eq_true, if_false]
    have HA := Aside0.mk (mul_ev hx hy)
    have HO := out_few (allM y x [])
    cases e : mulF x y with
    | none =>
      obtain ⟨rfl, rfl⟩ := h.none hx hy e
      refine Ev.bind HA.out ?_
      have hb : (outA (allM y x [])).2 = false := by rw [HO.1]; show (mulF x y).isSome = false; rw [e]; rfl
      simp only [hb, Bool.false_eq_true, if_false]
      exact Ev.now _
    | some l =>
      obtain ⟨rfl, rfl, hl⟩ := h.some hx hy e
      have HC := Aside0.mk (copied_ev (l := r) (fun t ht => by rw [hl.nf.len t ht]; omega) (by have := hl.len; omega))
      refine Ev.bind HA.out ?_
      have hb : (outA (allM y x [])).2 = true := by rw [HO.1]; show (mulF x y).isSome = true; rw [e]; rfl
      have hl2 : (outA (allM y x [])).1 = toL r := HO.2 r e
      simp only [hb, hl2, if_true]
      refine Ev.bind HC.out ?_
      exact Ev.now _
theorem mulL_ev {x y : Po} {r : Po} {n : Int} (h : AdR mulF x y r n) : Ev (fun k => tenetref24_Mul.f k (toL x) (toL y)) (toL r, n) := by
  obtain ⟨a, ha, ea⟩ := is_ev x
  obtain ⟨b, hb, eb⟩ := is_ev y
  have HA := Aside0.mk ea
  have HB := Aside0.mk eb
  simp only [tenetref24_Mul.f]
  refine Ev.bind HA.out ?_
  cases a with
  | false =>
    have hno : ¬ NfE x := fun q => by have := ha.2 q; cases this
    simp only [Bool.false_eq_true, if_false]
    exact mulL_j0 true (fun _ => h.bad (fun q => hno q.1)) (fun q => (by cases q)) h
  | true =>
    have hx := ha.1 rfl
    simp only [if_true]
    refine Ev.bind HB.out ?_
    cases b with
    | false =>
      have hno : ¬ NfE y := fun q => by have := hb.2 q; cases this
      exact mulL_j0 true (fun _ => h.bad (fun q => hno q.2)) (fun q => (by cases q)) h
    | true => exact mulL_j0 false (fun q => (by cases q)) (fun _ => ⟨hx, hb.1 rfl⟩) h
/-- How Add and Mul are called. -/
theorem mulLR_calls {x y : Po} {r : Po} {n : Int} (h : AdR mulF x y r n) (A B : Option Addr) (c d : Nat) (w : World) (hA : Kd.C k74 w A x.length (toL x)) (hc : x.length ≤ c) (hB : Kd.C k74 w B y.length (toL y)) (hd : y.length ≤ d) :
    Calls Try.prog 43 #[.slice A x.length c, .slice B y.length d] w fun e w' => RetM w' r n e ∧ Below w.heap.size w w' := by
  obtain ⟨k, hk⟩ := mulL_ev h
  have e1 : (toL x).length = x.length := by simp [toL]
  have e2 : (toL y).length = y.length := by simp [toL]
  have hq := tenetref24_Mul.calls k A c (toL x) B d (toL y) (toL r) n w (by rw [e1]; exact hA) (by rw [e1]; exact hc) (by rw [e2]; exact hB) (by rw [e2]; exact hd) (hk k (Nat.le_refl _))
  rw [e1, e2] at hq
  refine hq.mono ?_
  rintro e w' ⟨v, rfl, hS, hb⟩
  obtain ⟨A2, c2, rfl, hc2, hC⟩ := Kd.R_reads (Kd.S_R hS)
  have e3 : (toL r).length = r.length := by simp [toL]
  rw [e3] at hc2 hC
  exact ⟨⟨A2, c2, by rw [e3], hc2, hC⟩, hb⟩
set_option maxRecDepth 100000 in
theorem joined79 {x y : Po} {r : Po} {n : Int} (h : AdR addF x y r n) (A B : Option Addr) (c d : Nat) (w : World) (hA : Kd.C k74 w A x.length (toL x)) (hc : x.length ≤ c) (hB : Kd.C k74 w B y.length (toL y)) (hd : y.length ≤ d) :
    Calls Try.prog 78 #[.slice A x.length c, .slice B y.length d, .func (.func 79) #[] #[]] w fun e w' => RetM w' r n e ∧ Below w.heap.size w w' := by
  have H := Aside0.mk h
  have HA := Aside0.mk hA
  have HB := Aside0.mk hB
  have HC := Aside0.mk hc
  have HD := Aside0.mk hd
  clear h hA hB hc hd
  go_enter Try.func78, Try.ntmps78
  go_wp2_with (first | (go_at_call 59; skip))
  refine (read_calls x A c _ HA.out HC.out).mono ?_
  rintro e w3 ⟨hb3, hr3⟩
  have B3 := Aside0.mk hb3
  clear hb3
  rcases hr3 with ⟨hx, m1, rfl, hp3⟩ | ⟨hx, rfl⟩
  · have HX := Aside0.mk hx
    have P3 := Aside0.mk hp3
    clear hx hp3
    go_wp2_with (first | (go_at_call 59; skip))
    refine (read_calls y B d _ (Kd.C_below HB.out B3.out) HD.out).mono ?_
    rintro e w4 ⟨hb4, hr4⟩
    have B4 := Aside0.mk (below_step B3.out hb4)
    have P4 := Aside0.mk (PM_below P3.out hb4)
    clear hb4
    rcases hr4 with ⟨hy, m2, rfl, hp4⟩ | ⟨hy, rfl⟩
    · have HY := Aside0.mk hy
      have Q4 := Aside0.mk hp4
      clear hy hp4
      go_wp2_with (first | (go_at_call 59; skip))
      refine (plus_calls m1 m2 x y _ P4.out Q4.out HX.out HY.out).mono ?_
      rintro e w5 ⟨hb5, hr5⟩
      have B5 := Aside0.mk (below_step B4.out hb5)
      clear hb5
      rcases hr5 with ⟨ob, l, hf, rfl, hp5⟩ | ⟨hf, rfl⟩
      · obtain ⟨rfl, rfl, hl⟩ := H.out.some HX.out HY.out hf
        have P5 := Aside0.mk hp5
        have HL := Aside0.mk hl
        clear hp5 hl hf
        go_wp2_with (first | (go_at_call 59; skip))
        refine (listed_calls sort_ok ob _ _ P5.out HL.out).mono ?_
        rintro e w6 ⟨A6, c6, rfl, hC6, hl6, hb6⟩
        have B6 := Aside0.mk (below_step B5.out hb6)
        have C6 := Aside0.mk hC6
        have L6 := Aside0.mk hl6
        clear hb6 hC6 hl6
        go_wp2
        go_ret2
        exact ⟨⟨A6, c6, rfl, L6.out, C6.out⟩, B6.out⟩
      · obtain ⟨rfl, rfl⟩ := H.out.none HX.out HY.out hf
        clear hf
        go_wp2
        go_ret2
        exact ⟨RetM.nil _ _, B5.out⟩
    · obtain ⟨rfl, rfl⟩ := H.out.bad (fun q => hy q.2)
      clear hy
      go_wp2
      go_ret2
      exact ⟨RetM.nil _ _, B4.out⟩
  · obtain ⟨rfl, rfl⟩ := H.out.bad (fun q => hx q.1)
    clear hx
    go_wp2_with (first | (go_at_call 59; skip))
    refine (read_calls y B d _ (Kd.C_below HB.out B3.out) HD.out).mono ?_
    rintro e w4 ⟨hb4, hr4⟩
    have B4 := Aside0.mk (below_step B3.out hb4)
    clear hb4
    rcases hr4 with ⟨hy, m2, rfl, hp4⟩ | ⟨hy, rfl⟩
    · clear hy hp4
      go_wp2
      go_ret2
      exact ⟨RetM.nil _ _, B4.out⟩
    · clear hy
      go_wp2
      go_ret2
      exact ⟨RetM.nil _ _, B4.out⟩
set_option maxRecDepth 100000 in
theorem addLP_calls {x y : Po} {r : Po} {n : Int} (h : AdR addF x y r n) (A B : Option Addr) (c d : Nat) (w : World) (hA : Kd.C k74 w A x.length (toL x)) (hc : x.length ≤ c) (hB : Kd.C k74 w B y.length (toL y)) (hd : y.length ≤ d) :
    Calls Try.prog 40 #[.slice A x.length c, .slice B y.length d] w fun e w' => RetM w' r n e ∧ Below w.heap.size w w' := by
  have HJ := Aside0.mk (joined79 h A B c d w hA hc hB hd)
  clear h hA hB hc hd
  go_enter Try.func40, Try.ntmps40
  go_wp2_with (first | (go_at_call 59; skip))
  refine HJ.out.mono ?_
  rintro e w3 ⟨⟨A3, c3, rfl, hl3, hC3⟩, hb3⟩
  have B3 := Aside0.mk hb3
  have C3 := Aside0.mk hC3
  have L3 := Aside0.mk hl3
  clear hb3 hC3 hl3
  go_wp2
  go_ret2
  exact ⟨⟨A3, c3, rfl, L3.out, C3.out⟩, B3.out⟩
set_option maxRecDepth 100000 in
theorem joined81 {x y : Po} {r : Po} {n : Int} (h : AdR mulF x y r n) (A B : Option Addr) (c d : Nat) (w : World) (hA : Kd.C k74 w A x.length (toL x)) (hc : x.length ≤ c) (hB : Kd.C k74 w B y.length (toL y)) (hd : y.length ≤ d) :
    Calls Try.prog 78 #[.slice A x.length c, .slice B y.length d, .func (.func 81) #[] #[]] w fun e w' => RetM w' r n e ∧ Below w.heap.size w w' := by
  have H := Aside0.mk h
  have HA := Aside0.mk hA
  have HB := Aside0.mk hB
  have HC := Aside0.mk hc
  have HD := Aside0.mk hd
  clear h hA hB hc hd
  go_enter Try.func78, Try.ntmps78
  go_wp2_with (first | (go_at_call 59; skip))
  refine (read_calls x A c _ HA.out HC.out).mono ?_
  rintro e w3 ⟨hb3, hr3⟩
  have B3 := Aside0.mk hb3
  clear hb3
  rcases hr3 with ⟨hx, m1, rfl, hp3⟩ | ⟨hx, rfl⟩
  · have HX := Aside0.mk hx
    have P3 := Aside0.mk hp3
    clear hx hp3
    go_wp2_with (first | (go_at_call 59; skip))
    refine (read_calls y B d _ (Kd.C_below HB.out B3.out) HD.out).mono ?_
    rintro e w4 ⟨hb4, hr4⟩
    have B4 := Aside0.mk (below_step B3.out hb4)
    have P4 := Aside0.mk (PM_below P3.out hb4)
    clear hb4
    rcases hr4 with ⟨hy, m2, rfl, hp4⟩ | ⟨hy, rfl⟩
    · have HY := Aside0.mk hy
      have Q4 := Aside0.mk hp4
      clear hy hp4
      go_wp2_with (first | (go_at_call 59; skip))
      refine (product_calls m1 m2 x y _ P4.out Q4.out HX.out HY.out).mono ?_
      rintro e w5 ⟨hb5, hr5⟩
      have B5 := Aside0.mk (below_step B4.out hb5)
      clear hb5
      rcases hr5 with ⟨ob, l, hf, rfl, hp5⟩ | ⟨hf, rfl⟩
      · obtain ⟨rfl, rfl, hl⟩ := H.out.some HX.out HY.out hf
        have P5 := Aside0.mk hp5
        have HL := Aside0.mk hl
        clear hp5 hl hf
        go_wp2_with (first | (go_at_call 59; skip))
        refine (listed_calls sort_ok ob _ _ P5.out HL.out).mono ?_
        rintro e w6 ⟨A6, c6, rfl, hC6, hl6, hb6⟩
        have B6 := Aside0.mk (below_step B5.out hb6)
        have C6 := Aside0.mk hC6
        have L6 := Aside0.mk hl6
        clear hb6 hC6 hl6
        go_wp2
        go_ret2
        exact ⟨⟨A6, c6, rfl, L6.out, C6.out⟩, B6.out⟩
      · obtain ⟨rfl, rfl⟩ := H.out.none HX.out HY.out hf
        clear hf
        go_wp2
        go_ret2
        exact ⟨RetM.nil _ _, B5.out⟩
    · obtain ⟨rfl, rfl⟩ := H.out.bad (fun q => hy q.2)
      clear hy
      go_wp2
      go_ret2
      exact ⟨RetM.nil _ _, B4.out⟩
  · obtain ⟨rfl, rfl⟩ := H.out.bad (fun q => hx q.1)
    clear hx
    go_wp2_with (first | (go_at_call 59; skip))
    refine (read_calls y B d _ (Kd.C_below HB.out B3.out) HD.out).mono ?_
    rintro e w4 ⟨hb4, hr4⟩
    have B4 := Aside0.mk (below_step B3.out hb4)
    clear hb4
    rcases hr4 with ⟨hy, m2, rfl, hp4⟩ | ⟨hy, rfl⟩
    · clear hy hp4
      go_wp2
      go_ret2
      exact ⟨RetM.nil _ _, B4.out⟩
    · clear hy
      go_wp2
      go_ret2
      exact ⟨RetM.nil _ _, B4.out⟩
set_option maxRecDepth 100000 in
theorem mulLP_calls {x y : Po} {r : Po} {n : Int} (h : AdR mulF x y r n) (A B : Option Addr) (c d : Nat) (w : World) (hA : Kd.C k74 w A x.length (toL x)) (hc : x.length ≤ c) (hB : Kd.C k74 w B y.length (toL y)) (hd : y.length ≤ d) :
    Calls Try.prog 42 #[.slice A x.length c, .slice B y.length d] w fun e w' => RetM w' r n e ∧ Below w.heap.size w w' := by
  have HJ := Aside0.mk (joined81 h A B c d w hA hc hB hd)
  clear h hA hB hc hd
  go_enter Try.func42, Try.ntmps42
  go_wp2_with (first | (go_at_call 59; skip))
  refine HJ.out.mono ?_
  rintro e w3 ⟨⟨A3, c3, rfl, hl3, hC3⟩, hb3⟩
  have B3 := Aside0.mk hb3
  have C3 := Aside0.mk hC3
  have L3 := Aside0.mk hl3
  clear hb3 hC3 hl3
  go_wp2
  go_ret2
  exact ⟨⟨A3, c3, rfl, L3.out, C3.out⟩, B3.out⟩
theorem bigL_calls (l : Po) : ∃ b, ∀ (A : Option Addr) (c : Nat) (w : World), Kd.C k74 w A l.length (toL l) → l.length ≤ c → Calls Try.prog 23 #[.slice A l.length c] w fun e w' => e = .returned (.bool b) ∧ Below w.heap.size w w' := by
  obtain ⟨b, _, ⟨k, hk⟩⟩ := bigList_ev l
  refine ⟨b, fun A c w hA hc => ?_⟩
  have e1 : (toL l).length = l.length := by simp [toL]
  have h := tenetlaw24_bigList.calls k A c (toL l) b w (by rw [e1]; exact hA) (by rw [e1]; exact hc) (hk k (Nat.le_refl _))
  rw [e1] at h
  refine h.mono ?_
  rintro e w' ⟨h1, h2⟩
  exact ⟨h1, h2.below⟩
set_option maxRecDepth 100000 in
set_option maxHeartbeats 4000000 in
theorem adds_law (w : World) (A : Option Addr) (c : Nat) (x : Po) (B : Option Addr) (d : Nat) (y : Po) (hA : Kd.C k74 w A x.length (toL x)) (hc : x.length ≤ c) (hB : Kd.C k74 w B y.length (toL y)) (hd : y.length ≤ d) :
    Calls Try.prog 11 #[.slice A x.length c, .slice B y.length d] w fun e w' => e = .returned (.bool true) ∧ Below w.heap.size w w' := by
  obtain ⟨b1, hb1⟩ := bigL_calls x
  obtain ⟨b2, hb2⟩ := bigL_calls y
  have HX := Aside0.mk (fun W (h : Below w.heap.size w W) => Kd.C_below hA h)
  have HY := Aside0.mk (fun W (h : Below w.heap.size w W) => Kd.C_below hB h)
  have HC := Aside0.mk hc
  have HD := Aside0.mk hd
  have H1 := Aside0.mk (fun W (h : Below w.heap.size w W) => hb1 A c W (Kd.C_below hA h) hc)
  have H2 := Aside0.mk (fun W (h : Below w.heap.size w W) => hb2 B d W (Kd.C_below hB h) hd)
  clear hA hB hc hd hb1 hb2
  go_enter Try.func11, Try.ntmps11
  go_wp2_with (first | (go_at_call 59; skip))
  refine (H1.out _ (Below.refl _ _)).mono ?_
  rintro e w3 ⟨rfl, hb3⟩
  have B3 := Aside0.mk hb3
  clear hb3
  cases b1 with
  | true =>
    go_wp2_with (first | (go_at_call 59; skip))
    refine (awake_calls _).mono ?_
    rintro e w9 ⟨rfl, hb9⟩
    have B9 := Aside0.mk (below_step B3.out hb9)
    clear hb9
    go_wp2
    go_ret
    exact ⟨rfl, B9.out⟩
  | false =>
    go_wp2_with (first | (go_at_call 59; skip))
    refine (H2.out _ B3.out).mono ?_
    rintro e w4 ⟨rfl, hb4⟩
    have B4 := Aside0.mk (below_step B3.out hb4)
    clear hb4
    cases b2 with
    | true =>
      go_wp2_with (first | (go_at_call 59; skip))
      refine (awake_calls _).mono ?_
      rintro e w9 ⟨rfl, hb9⟩
      have B9 := Aside0.mk (below_step B4.out hb9)
      clear hb9
      go_wp2
      go_ret
      exact ⟨rfl, B9.out⟩
    | false =>
      obtain ⟨r, n, hr⟩ := AdR.ex (F := addF) (fun x y l hx hy h => addF_nfe hx hy h) x y
      obtain ⟨s, m, hs⟩ := AdR.ex (F := mulF) (fun x y l hx hy h => mulF_nfe hx hy h) x y
      have R1 := Aside0.mk hr
      have R2 := Aside0.mk hs
      have c1 : (n == n) = true := beq_self_eq_true n
      have c2 : (m == m) = true := beq_self_eq_true m
      clear hr hs
      go_wp2_with (first | (go_at_call 59; skip))
      refine (addLP_calls R1.out A B c d _ (HX.out _ B4.out) HC.out (HY.out _ B4.out) HD.out).mono ?_
      rintro e w5 ⟨⟨A5, c5, rfl, hl5, hC5⟩, hb5⟩
      have B5 := Aside0.mk (below_step B4.out hb5)
      have L5 := Aside0.mk hl5
      have C5 := Aside0.mk hC5
      clear hb5 hl5 hC5
      go_wp2_with (first | (go_at_call 59; skip))
      refine (addLR_calls R1.out A B c d _ (HX.out _ B5.out) HC.out (HY.out _ B5.out) HD.out).mono ?_
      rintro e w6 ⟨⟨A6, c6, rfl, hl6, hC6⟩, hb6⟩
      have B6 := Aside0.mk (below_step B5.out hb6)
      have C5' := Aside0.mk (Kd.C_below C5.out hb6)
      have L6 := Aside0.mk hl6
      have C6 := Aside0.mk hC6
      clear hb6 hl6 hC6 C5
      go_wp2_with (first | (go_at_call 59; skip))
      refine (mulLP_calls R2.out A B c d _ (HX.out _ B6.out) HC.out (HY.out _ B6.out) HD.out).mono ?_
      rintro e w7 ⟨⟨A7, c7, rfl, hl7, hC7⟩, hb7⟩
      have B7 := Aside0.mk (below_step B6.out hb7)
      have C5 := Aside0.mk (Kd.C_below C5'.out hb7)
      have C6' := Aside0.mk (Kd.C_below C6.out hb7)
      have L7 := Aside0.mk hl7
      have C7 := Aside0.mk hC7
      clear hb7 hl7 hC7 C5' C6
      go_wp2_with (first | (go_at_call 59; skip))
      refine (mulLR_calls R2.out A B c d _ (HX.out _ B7.out) HC.out (HY.out _ B7.out) HD.out).mono ?_
      rintro e w8 ⟨⟨A8, c8, rfl, hl8, hC8⟩, hb8⟩
      have B8 := Aside0.mk (below_step B7.out hb8)
      have C5' := Aside0.mk (Kd.C_below C5.out hb8)
      have C6 := Aside0.mk (Kd.C_below C6'.out hb8)
      have C7' := Aside0.mk (Kd.C_below C7.out hb8)
      have L8 := Aside0.mk hl8
      have C8 := Aside0.mk hC8
      clear hb8 hl8 hC8 C5 C6' C7
      go_wp2_with (first | (go_at_call 59; skip))
      refine (monos_same R1.out.len.1 (by have := R1.out.len.2; omega) A5 A6 c5 c6 _ C5'.out L5.out C6.out L6.out).mono ?_
      rintro e w9 ⟨rfl, hb9⟩
      have B9 := Aside0.mk (below_step B8.out hb9)
      have C7 := Aside0.mk (Kd.C_below C7'.out hb9)
      have C8' := Aside0.mk (Kd.C_below C8.out hb9)
      clear hb9 C5' C6 C7' C8
      go_wp2_with (first | (go_at_call 59; skip))
      refine (monos_same R2.out.len.1 (by have := R2.out.len.2; omega) A7 A8 c7 c8 _ C7.out L7.out C8'.out L8.out).mono ?_
      rintro e w10 ⟨rfl, hb10⟩
      have B10 := Aside0.mk (below_step B9.out hb10)
      clear hb10
      go_wp2_with (first | (go_at_call 59; skip))
      refine (awake_calls _).mono ?_
      rintro e w11 ⟨rfl, hb11⟩
      have B11 := Aside0.mk (below_step B10.out hb11)
      clear hb11
      go_wp2
      go_ret
      exact ⟨rfl, B11.out⟩
end
end Go.Proofs.Ytlidibbdacohaaa.R
