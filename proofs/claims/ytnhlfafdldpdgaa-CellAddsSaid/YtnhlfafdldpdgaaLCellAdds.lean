/- For every text and every float, the law CellAdds returns true: what any cell and any float come to is the sum, or there is no cell. No condition. -/
import Derived.Test.YtnhlfafdldpdgaaX2RowCellAdds
namespace Go.Proofs.Ytnhlfafdldpdgaa.X2
open Go Go.RowKit Go.Proofs.YtnhlfafdldpdgaaW.PrintWords
theorem CellAdds : RowCellAdds.Pure := by
  unfold RowCellAdds.Pure
  intros
  exact ⟨0, rfl⟩
theorem cellAdds_holds : Rows.CellAddsSaid := RowCellAdds.holds CellAdds
end Go.Proofs.Ytnhlfafdldpdgaa.X2
