/- For every list of floats and every number, the law PolicyTurns returns true: the order of measures changes nothing of how many there are, and of the least and the greatest one. No condition. -/
import Derived.Test.YtnhlfafdldpdgaaX19RowPolicyTurns
namespace Go.Proofs.Ytnhlfafdldpdgaa.X19
open Go Go.RowKit Go.Proofs.YtnhlfafdldpdgaaW.PrintWords
theorem PolicyTurns : RowPolicyTurns.Pure := by
  unfold RowPolicyTurns.Pure
  intros
  exact ⟨0, rfl⟩
theorem policyTurns_holds : Rows.PolicyTurnsSaid := RowPolicyTurns.holds PolicyTurns
end Go.Proofs.Ytnhlfafdldpdgaa.X19
