/- For every slab and number, the law SlabTurns returns true: a slab's sector of which one bit is turned is none. No condition. -/
import Derived.Test.YtigfeafenjfdlaaX1RowSlabTurns
namespace Go.Proofs.Ytigfeafenjfdlaa.X1
open Go Go.RowKit Go.Proofs.YtigfeafenjfdlaaW.PrintWords
theorem wf32t {x : Int} (h : (Lit.int .u32 x).wf = true) : 0 ≤ x ∧ x < 4294967296 := by
  simp only [Lit.wf, Bool.and_eq_true, decide_eq_true_eq] at h
  have h2 : IntKind.u32.min ≤ x ∧ x ≤ IntKind.u32.max := h
  simp only [show IntKind.u32.min = 0 from rfl, show IntKind.u32.max = 4294967295 from rfl] at h2
  omega
theorem SlabTurns : RowSlabTurns.Pure := by
  intro x bit h0 h1
  refine ⟨0, ?_⟩
  unfold careenlaw01_SlabTurns.f
  exact if_pos ⟨wf32t h0.1, wf32t h0.2.1⟩
theorem slabTurns_holds : Rows.SlabTurnsSaid := RowSlabTurns.holds SlabTurns
end Go.Proofs.Ytigfeafenjfdlaa.X1
