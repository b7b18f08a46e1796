/- For every list of masters, the law MasterTurns returns true: masters that are written with rising tickets are read as they were written last, and the two sectors are used in turns. No condition. -/
import Derived.Test.YtbdfdfahpdilpaaX12RowMasterTurns
namespace Go.Proofs.Ytbdfdfahpdilpaa.X12
open Go Go.RowKit Go.Proofs.YtbdfdfahpdilpaaW.PrintWords
theorem MasterTurns : RowMasterTurns.Pure := by
  unfold RowMasterTurns.Pure
  intros
  exact ⟨0, rfl⟩
theorem masterTurns_holds : Rows.MasterTurnsSaid := RowMasterTurns.holds MasterTurns
end Go.Proofs.Ytbdfdfahpdilpaa.X12
