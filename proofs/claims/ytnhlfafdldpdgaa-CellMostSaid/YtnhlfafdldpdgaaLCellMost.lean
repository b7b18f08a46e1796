/- For every list of floats, the law CellMost returns true: the one that stands last is one of them, or the infinity below; none stands behind it. No condition. -/
import Derived.Test.YtnhlfafdldpdgaaX2RowCellMost
namespace Go.Proofs.Ytnhlfafdldpdgaa.X2
open Go Go.RowKit Go.Proofs.YtnhlfafdldpdgaaW.PrintWords
theorem CellMost : RowCellMost.Pure := by
  unfold RowCellMost.Pure
  intros
  exact ⟨0, rfl⟩
theorem cellMost_holds : Rows.CellMostSaid := RowCellMost.holds CellMost
end Go.Proofs.Ytnhlfafdldpdgaa.X2
