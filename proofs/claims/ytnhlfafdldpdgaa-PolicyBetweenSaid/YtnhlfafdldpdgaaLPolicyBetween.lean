/- For every list of floats, the law PolicyBetween returns true: a mean of measures that aren't too great lies between the least and the greatest one; they lie apart by no less than nothing. No condition. -/
import Derived.Test.YtnhlfafdldpdgaaX19RowPolicyBetween
namespace Go.Proofs.Ytnhlfafdldpdgaa.X19
open Go Go.RowKit Go.Proofs.YtnhlfafdldpdgaaW.PrintWords
theorem PolicyBetween : RowPolicyBetween.Pure := by
  unfold RowPolicyBetween.Pure
  intros
  exact ⟨0, rfl⟩
theorem policyBetween_holds : Rows.PolicyBetweenSaid := RowPolicyBetween.holds PolicyBetween
end Go.Proofs.Ytnhlfafdldpdgaa.X19
