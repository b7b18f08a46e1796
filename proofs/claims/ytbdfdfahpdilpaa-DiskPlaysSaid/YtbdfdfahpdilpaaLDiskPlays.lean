/- For every number of sectors and every list of calls, the law DiskPlays returns true: in every order of calls sectors are what the document says; writes, syncs and the fuse go as it says, behind crashes, too. No condition. -/
import Derived.Test.YtbdfdfahpdilpaaX3RowDiskPlays
namespace Go.Proofs.Ytbdfdfahpdilpaa.X3
open Go Go.RowKit Go.Proofs.YtbdfdfahpdilpaaW.PrintWords
namespace RowDiskPlays
theorem wfi {x : Int} (h : (Lit.int .i64 x).wf = true) : -9223372036854775808 ≤ x ∧ x < 9223372036854775808 := by
  simp only [Lit.wf, Bool.and_eq_true, decide_eq_true_eq] at h
  have h2 : IntKind.i64.min ≤ x ∧ x ≤ IntKind.i64.max := h
  simp only [show IntKind.i64.min = -9223372036854775808 from rfl, show IntKind.i64.max = 9223372036854775807 from rfl] at h2
  omega
theorem wfb {x : Int} (h : (Lit.int .u8 x).wf = true) : 0 ≤ x ∧ x < 256 := by
  simp only [Lit.wf, Bool.and_eq_true, decide_eq_true_eq] at h
  have h2 : IntKind.u8.min ≤ x ∧ x ≤ IntKind.u8.max := h
  simp only [show IntKind.u8.min = 0 from rfl, show IntKind.u8.max = 255 from rfl] at h2
  omega
theorem okOps {l : List S31} (h : ∀ y ∈ l, W31 y) : OkOps l := fun y hy => ⟨wfi (h y hy).1, wfi (h y hy).2.1, wfi (h y hy).2.2.1, wfb (h y hy).2.2.2.1, fun z hz => wfb ((h y hy).2.2.2.2.2.2 z hz)⟩
end RowDiskPlays
theorem DiskPlays : RowDiskPlays.Pure := by
  intro x0 x1 h0 h1
  refine ⟨0, ?_⟩
  unfold careenlaw03_DiskPlays.f
  exact if_pos (RowDiskPlays.okOps h1.2.2)
theorem diskPlays_holds : Rows.DiskPlaysSaid := RowDiskPlays.holds DiskPlays
end Go.Proofs.Ytbdfdfahpdilpaa.X3
