/- For every list of floats, the law CellRow returns true: the sum of a list is that of its beginning, and the last one added to it. No condition. -/
import Derived.Test.YtnhlfafdldpdgaaX2RowCellRow
namespace Go.Proofs.Ytnhlfafdldpdgaa.X2
open Go Go.RowKit Go.Proofs.YtnhlfafdldpdgaaW.PrintWords
theorem CellRow : RowCellRow.Pure := by
  unfold RowCellRow.Pure
  intros
  exact ⟨0, rfl⟩
theorem cellRow_holds : Rows.CellRowSaid := RowCellRow.holds CellRow
end Go.Proofs.Ytnhlfafdldpdgaa.X2
