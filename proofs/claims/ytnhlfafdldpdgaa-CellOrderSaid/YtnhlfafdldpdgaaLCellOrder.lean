/- For every three floats, the law CellOrder returns true: the order of any two is the document's, and total over three. No condition. -/
import Derived.Test.YtnhlfafdldpdgaaX2RowCellOrder
namespace Go.Proofs.Ytnhlfafdldpdgaa.X2
open Go Go.RowKit Go.Proofs.YtnhlfafdldpdgaaW.PrintWords
theorem CellOrder : RowCellOrder.Pure := by
  unfold RowCellOrder.Pure
  intros
  exact ⟨0, rfl⟩
theorem cellOrder_holds : Rows.CellOrderSaid := RowCellOrder.holds CellOrder
end Go.Proofs.Ytnhlfafdldpdgaa.X2
