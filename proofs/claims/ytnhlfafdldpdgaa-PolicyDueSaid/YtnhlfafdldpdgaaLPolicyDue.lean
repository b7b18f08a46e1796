/- For every five floats, the law PolicyDue returns true: with more bytes, or more time, a checkpoint that was due is due still. No condition. -/
import Derived.Test.YtnhlfafdldpdgaaX19RowPolicyDue
namespace Go.Proofs.Ytnhlfafdldpdgaa.X19
open Go Go.RowKit Go.Proofs.YtnhlfafdldpdgaaW.PrintWords
theorem PolicyDue : RowPolicyDue.Pure := by
  unfold RowPolicyDue.Pure
  intros
  exact ⟨0, rfl⟩
theorem policyDue_holds : Rows.PolicyDueSaid := RowPolicyDue.holds PolicyDue
end Go.Proofs.Ytnhlfafdldpdgaa.X19
