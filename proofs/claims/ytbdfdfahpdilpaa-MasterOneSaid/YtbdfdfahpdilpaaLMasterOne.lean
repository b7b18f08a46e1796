/- For every list of calls, the law MasterOne returns true: with each ticket one above the last one that was read, the master is always one of the two: the one ahead of a crash, or the one that was being written; and the one that was written, if no crash came. No condition. -/
import Derived.Test.YtbdfdfahpdilpaaX12RowMasterOne
namespace Go.Proofs.Ytbdfdfahpdilpaa.X12
open Go Go.RowKit Go.Proofs.YtbdfdfahpdilpaaW.PrintWords
theorem wfb12 {x : Int} (h : (Lit.int .u8 x).wf = true) : 0 ≤ x ∧ x < 256 := by
  simp only [Lit.wf, Bool.and_eq_true, decide_eq_true_eq] at h
  have h2 : IntKind.u8.min ≤ x ∧ x ≤ IntKind.u8.max := h
  simp only [show IntKind.u8.min = 0 from rfl, show IntKind.u8.max = 255 from rfl] at h2
  omega
theorem MasterOne : RowMasterOne.Pure := by
  intro x0 h0
  refine ⟨0, ?_⟩
  unfold careenlaw12_MasterOne.f
  exact if_pos fun x hx y hy => wfb12 ((h0.2.2 x hx).2.2.2.2.2.2 y hy)
theorem masterOne_holds : Rows.MasterOneSaid := RowMasterOne.holds MasterOne
end Go.Proofs.Ytbdfdfahpdilpaa.X12
