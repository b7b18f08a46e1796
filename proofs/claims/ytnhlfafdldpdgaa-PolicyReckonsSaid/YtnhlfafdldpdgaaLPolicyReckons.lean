/- For every four floats, the law PolicyReckons returns true: any score, any mean that forgets, and whether a checkpoint is due, are the document's, bit by bit. No condition. -/
import Derived.Test.YtnhlfafdldpdgaaX19RowPolicyReckons
namespace Go.Proofs.Ytnhlfafdldpdgaa.X19
open Go Go.RowKit Go.Proofs.YtnhlfafdldpdgaaW.PrintWords
theorem PolicyReckons : RowPolicyReckons.Pure := by
  unfold RowPolicyReckons.Pure
  intros
  exact ⟨0, rfl⟩
theorem policyReckons_holds : Rows.PolicyReckonsSaid := RowPolicyReckons.holds PolicyReckons
end Go.Proofs.Ytnhlfafdldpdgaa.X19
