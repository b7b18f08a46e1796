/- For every list of floats, the law PolicyVictim returns true: the frame that is worth least is the document's; none is worth less. No condition. -/
import Derived.Test.YtnhlfafdldpdgaaX19RowPolicyVictim
namespace Go.Proofs.Ytnhlfafdldpdgaa.X19
open Go Go.RowKit Go.Proofs.YtnhlfafdldpdgaaW.PrintWords
theorem PolicyVictim : RowPolicyVictim.Pure := by
  unfold RowPolicyVictim.Pure
  intros
  exact ⟨0, rfl⟩
theorem policyVictim_holds : Rows.PolicyVictimSaid := RowPolicyVictim.holds PolicyVictim
end Go.Proofs.Ytnhlfafdldpdgaa.X19
