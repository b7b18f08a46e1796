/- For every list of floats, the law PolicyMeters returns true: what any measures come to is the document's, bit by bit, behind each of them. No condition. -/
import Derived.Test.YtnhlfafdldpdgaaX19RowPolicyMeters
namespace Go.Proofs.Ytnhlfafdldpdgaa.X19
open Go Go.RowKit Go.Proofs.YtnhlfafdldpdgaaW.PrintWords
theorem PolicyMeters : RowPolicyMeters.Pure := by
  unfold RowPolicyMeters.Pure
  intros
  exact ⟨0, rfl⟩
theorem policyMeters_holds : Rows.PolicyMetersSaid := RowPolicyMeters.holds PolicyMeters
end Go.Proofs.Ytnhlfafdldpdgaa.X19
