/- For every two whole numbers of 32 bits, the law CellTwice returns true: two numbers added to a cell one by one, in either order, come to the same; a number and its opposite leave it. No condition. -/
import Derived.Test.YtnhlfafdldpdgaaX2RowCellTwice
namespace Go.Proofs.Ytnhlfafdldpdgaa.X2
open Go Go.RowKit Go.Proofs.YtnhlfafdldpdgaaW.PrintWords
theorem wf_i32 {x : Int} (h : (Lit.int .i32 x).wf = true) : -2147483648 ≤ x ∧ x < 2147483648 := by
  simp only [Lit.wf, Bool.and_eq_true, decide_eq_true_eq] at h
  have h2 : IntKind.i32.min ≤ x ∧ x ≤ IntKind.i32.max := h
  simp only [show IntKind.i32.min = -2147483648 from rfl, show IntKind.i32.max = 2147483647 from rfl] at h2
  omega
theorem CellTwice : RowCellTwice.Pure := by
  intro a b h0 h1
  refine ⟨0, ?_⟩
  unfold careenlaw02_CellTwice.f
  exact if_pos ⟨wf_i32 h0, wf_i32 h1⟩
theorem cellTwice_holds : Rows.CellTwiceSaid := RowCellTwice.holds CellTwice
end Go.Proofs.Ytnhlfafdldpdgaa.X2
