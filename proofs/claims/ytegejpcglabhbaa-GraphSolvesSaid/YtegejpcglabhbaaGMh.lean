/- Plain law: GraphSolves answers true. -/
import Derived.Test.YtegejpcglabhbaaGMt
import Derived.Test.YtegejpcglabhbaaGf3
namespace Go.Proofs.Ytegejpcglabhbaa.G
open Go.RowKit Go.Proofs.YtegejpcglabhbaaW.PrintWords Go.Proofs.YtegejpcglabhbaaW.PrintLast Go.Proofs.YtegejpcglabhbaaW.PrintMore
set_option linter.unusedVariables false
set_option linter.unusedSimpArgs false

theorem awake_at : tenetlaw02_awake.f 60 = some true := by kernel_rfl
theorem awake_k (k : Nat) (hk : 60 ≤ k) : tenetlaw02_awake.f k = some true := at_rounds (fun k => tenetlaw02_awake.mono k) hk awake_at
theorem GraphSolves_pure (n : Int) (l : List S44) : ∃ k, tenetlaw02_GraphSolves.f k n l = some true := by
  cases hv : validB n l with
  | false =>
    refine ⟨6000, ?_⟩
    unfold tenetlaw02_GraphSolves.f
    rcases heavy_eq n l 120 (by omega) 6000 (by omega) with h | ⟨_, _, h⟩
    · rw [h, Option.bind_some, if_pos rfl, awake_k 6000 (by omega)]
      rfl
    · rw [h, Option.bind_some, if_neg (by decide)]
      have h1 : graph_Solve.f 6000 n l = some ([], 4) := by unfold graph_Solve.f; rw [hv, if_neg (by decide)]
      have h2 : tenetref02_Solve.f 6000 n l = some ([], 4) := by unfold tenetref02_Solve.f; rw [valid_eq n l 6000 (by omega), hv]; rfl
      have h3 : graph_Valid.f n l = some false := by unfold graph_Valid.f; rw [hv]
      rw [h1, Option.bind_some, h2, Option.bind_some, h3, Option.bind_some, valid_eq n l 6000 (by omega), Option.bind_some, hv, if_pos (show (false == false) = true from rfl), if_pos rfl, eqints_eq [] (by simp) 6000 (by simp), Option.bind_some, if_pos rfl, awake_k 6000 (by omega)]
      rfl
  | true =>
    obtain ⟨r, hr, ⟨N1, h1⟩, ⟨N2, h2⟩⟩ := both_solve n l hv
    refine ⟨6000 + N1 + N2, ?_⟩
    unfold tenetlaw02_GraphSolves.f
    rcases heavy_eq n l 120 (by omega) (6000 + N1 + N2) (by omega) with h | ⟨_, _, h⟩
    · rw [h, Option.bind_some, if_pos rfl, awake_k (6000 + N1 + N2) (by omega)]
      rfl
    · have h3 : graph_Valid.f n l = some true := by unfold graph_Valid.f; rw [hv]
      have h1' : graph_Solve.f (6000 + N1 + N2) n l = some r := h1 _ (by omega)
      have h2' : tenetref02_Solve.f (6000 + N1 + N2) n l = some r := h2 _ (by omega)
      rw [h, Option.bind_some, if_neg (by decide), h1', Option.bind_some, h2', Option.bind_some, h3, Option.bind_some, valid_eq n l _ (by omega), Option.bind_some, hv, if_pos (show (true == true) = true from rfl), if_pos rfl, eqints_eq r.1 (by omega) _ (by omega), Option.bind_some, if_pos rfl, awake_k _ (by omega)]
      rfl
end Go.Proofs.Ytegejpcglabhbaa.G
