/- For every place and master, the law MasterNil returns true: a disk that is none has no master. No condition. -/
import Derived.Test.YtbdfdfahpdilpaaX12RowMasterNil
namespace Go.Proofs.Ytbdfdfahpdilpaa.X12
open Go Go.RowKit Go.Proofs.YtbdfdfahpdilpaaW.PrintWords
theorem MasterNil : RowMasterNil.Pure := by
  unfold RowMasterNil.Pure
  intros
  exact ⟨0, rfl⟩
theorem masterNil_holds : Rows.MasterNilSaid := RowMasterNil.holds MasterNil
end Go.Proofs.Ytbdfdfahpdilpaa.X12
