/- For every text and every float, the law CellBack returns true: a cell that is read, and written again, is the same, but for NaN; nought added to it changes the zero with a minus alone. No condition. -/
import Derived.Test.YtnhlfafdldpdgaaX2RowCellBack
namespace Go.Proofs.Ytnhlfafdldpdgaa.X2
open Go Go.RowKit Go.Proofs.YtnhlfafdldpdgaaW.PrintWords
theorem CellBack : RowCellBack.Pure := by
  unfold RowCellBack.Pure
  intros
  exact ⟨0, rfl⟩
theorem cellBack_holds : Rows.CellBackSaid := RowCellBack.holds CellBack
end Go.Proofs.Ytnhlfafdldpdgaa.X2
