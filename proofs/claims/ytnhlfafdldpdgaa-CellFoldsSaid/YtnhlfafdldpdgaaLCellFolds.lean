/- For every list of floats, the law CellFolds returns true: the last one, and the sum, of any floats are the document's. No condition. -/
import Derived.Test.YtnhlfafdldpdgaaX2RowCellFolds
namespace Go.Proofs.Ytnhlfafdldpdgaa.X2
open Go Go.RowKit Go.Proofs.YtnhlfafdldpdgaaW.PrintWords
theorem CellFolds : RowCellFolds.Pure := by
  unfold RowCellFolds.Pure
  intros
  exact ⟨0, rfl⟩
theorem cellFolds_holds : Rows.CellFoldsSaid := RowCellFolds.holds CellFolds
end Go.Proofs.Ytnhlfafdldpdgaa.X2
