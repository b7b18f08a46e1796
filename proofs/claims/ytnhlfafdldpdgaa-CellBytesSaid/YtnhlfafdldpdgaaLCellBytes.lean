/- For every float and every text, the law CellBytes returns true: any float's cell, and any cell's float, are the document's. No condition. -/
import Derived.Test.YtnhlfafdldpdgaaX2RowCellBytes
namespace Go.Proofs.Ytnhlfafdldpdgaa.X2
open Go Go.RowKit Go.Proofs.YtnhlfafdldpdgaaW.PrintWords
theorem CellBytes : RowCellBytes.Pure := by
  unfold RowCellBytes.Pure
  intros
  exact ⟨0, rfl⟩
theorem cellBytes_holds : Rows.CellBytesSaid := RowCellBytes.holds CellBytes
end Go.Proofs.Ytnhlfafdldpdgaa.X2
