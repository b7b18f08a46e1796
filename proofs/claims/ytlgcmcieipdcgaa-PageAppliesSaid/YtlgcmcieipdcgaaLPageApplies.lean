/- For every page, place and record, the law PageApplies returns true: page.Apply does what the document's Apply does. No condition. -/
import Derived.Test.YtlgcmcieipdcgaaPure6
import Derived.Test.YtlgcmcieipdcgaaX6RowPageApplies
import Derived.Test.YtlgcmcieipdcgaaRefApply
namespace Go.Proofs.Ytlgcmcieipdcgaa.X6
open Go Go.RowKit Go.Proofs.YtlgcmcieipdcgaaW.PrintWords Go.Proofs.Ytlgcmcieipdcgaa.Page Go.Proofs.Ytlgcmcieipdcgaa.Arr
set_option linter.unusedVariables false
theorem PageApplies : RowPageApplies.Pure := by
  intro x0 x1 x2 h0 h1 h2
  refine ⟨3, ?_⟩
  have h8 : x2.f8.size ≤ 140737488351232 := h2.2.2.2.2.2.2.2.2.1
  have go : ∀ x, careenlaw06_PageApplies.j0 3 x1 x x0.f0 x0.f1 x2.f0 x2.f1 x2.f2 x2.f3 x2.f4 x2.f5 x2.f6 x2.f7 x2.f8 x2.f9 x2.f10 = some true := by
    intro x
    simp only [careenlaw06_PageApplies.j0]
    cases x with
    | true => rw [if_pos rfl, awake_eq 2 (by omega)]; rfl
    | false => rw [if_neg (by simp), apply_eq 1 _ _ _ _ _ _ _ _ _ _ _ _ _ _ h8, refapply_eq 1 _ _ _ _ _ _ _ _ _ _ _ _ _ _ h8]; simp
  unfold careenlaw06_PageApplies.f
  rw [awake_eq 3 (by omega), few_eq]
  simp only [Option.bind_some, if_true]
  by_cases h : (x0.f1.size : Int) > 500
  · rw [if_pos h]; exact go true
  · rw [if_neg h]; exact go _
theorem pageApplies_holds : Rows.PageAppliesSaid := RowPageApplies.holds PageApplies
end Go.Proofs.Ytlgcmcieipdcgaa.X6
