/- For every two masters and number, the law MasterLost returns true: of two sectors that have no master there is none; of one that is lost the other one is it. No condition. -/
import Derived.Test.YtbdfdfahpdilpaaX12RowMasterLost
namespace Go.Proofs.Ytbdfdfahpdilpaa.X12
open Go Go.RowKit Go.Proofs.YtbdfdfahpdilpaaW.PrintWords
theorem MasterLost : RowMasterLost.Pure := by
  unfold RowMasterLost.Pure
  intros
  exact ⟨0, rfl⟩
theorem masterLost_holds : Rows.MasterLostSaid := RowMasterLost.holds MasterLost
end Go.Proofs.Ytbdfdfahpdilpaa.X12
