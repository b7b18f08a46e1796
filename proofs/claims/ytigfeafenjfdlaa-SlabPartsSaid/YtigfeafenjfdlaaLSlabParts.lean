/- For every slab, the law SlabParts returns true: a sector tells its slab's epoch, index and body, and its last four bytes are the sum of the others. No condition. -/
import Derived.Test.YtigfeafenjfdlaaX1RowSlabParts
namespace Go.Proofs.Ytigfeafenjfdlaa.X1
open Go Go.RowKit Go.Proofs.YtigfeafenjfdlaaW.PrintWords
theorem wf32p {x : Int} (h : (Lit.int .u32 x).wf = true) : 0 ≤ x ∧ x < 4294967296 := by
  simp only [Lit.wf, Bool.and_eq_true, decide_eq_true_eq] at h
  have h2 : IntKind.u32.min ≤ x ∧ x ≤ IntKind.u32.max := h
  simp only [show IntKind.u32.min = 0 from rfl, show IntKind.u32.max = 4294967295 from rfl] at h2
  omega
theorem SlabParts : RowSlabParts.Pure := by
  intro x h0
  refine ⟨0, ?_⟩
  unfold careenlaw01_SlabParts.f
  exact if_pos ⟨wf32p h0.1, wf32p h0.2.1⟩
theorem slabParts_holds : Rows.SlabPartsSaid := RowSlabParts.holds SlabParts
end Go.Proofs.Ytigfeafenjfdlaa.X1
