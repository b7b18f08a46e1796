/- For every text, place and byte, the law SlabSums returns true: two texts of one length that differ in one byte have unlike sums. No condition. -/
import Derived.Test.YtigfeafenjfdlaaX1RowSlabSums
namespace Go.Proofs.Ytigfeafenjfdlaa.X1
open Go Go.RowKit Go.Proofs.YtigfeafenjfdlaaW.PrintWords
theorem wf8 {x : Int} (h : (Lit.int .u8 x).wf = true) : 0 ≤ x ∧ x < 256 := by
  simp only [Lit.wf, Bool.and_eq_true, decide_eq_true_eq] at h
  have h2 : IntKind.u8.min ≤ x ∧ x ≤ IntKind.u8.max := h
  simp only [show IntKind.u8.min = 0 from rfl, show IntKind.u8.max = 255 from rfl] at h2
  omega
theorem SlabSums : RowSlabSums.Pure := by
  intro s at_ c h0 h1 h2
  refine ⟨0, ?_⟩
  unfold careenlaw01_SlabSums.f
  exact if_pos (wf8 h2)
theorem slabSums_holds : Rows.SlabSumsSaid := RowSlabSums.holds SlabSums
end Go.Proofs.Ytigfeafenjfdlaa.X1
