/- For every number, text and picks, the law DiskNil returns true: a disk that is none has no sectors. No condition. -/
import Derived.Test.YtbdfdfahpdilpaaX3RowDiskNil
namespace Go.Proofs.Ytbdfdfahpdilpaa.X3
open Go Go.RowKit Go.Proofs.YtbdfdfahpdilpaaW.PrintWords
theorem DiskNil : RowDiskNil.Pure := by
  unfold RowDiskNil.Pure
  intros
  exact ⟨0, rfl⟩
theorem diskNil_holds : Rows.DiskNilSaid := RowDiskNil.holds DiskNil
end Go.Proofs.Ytbdfdfahpdilpaa.X3
