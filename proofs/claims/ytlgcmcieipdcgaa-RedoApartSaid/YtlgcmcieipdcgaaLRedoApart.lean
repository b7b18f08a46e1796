/- For every list of entries, place, list of pages and number, the law RedoApart returns true: each page hangs on the records that name it alone. No condition. -/
import Derived.Test.YtlgcmcieipdcgaaX14RowRedoApart
namespace Go.Proofs.Ytlgcmcieipdcgaa.X14
open Go Go.RowKit Go.Proofs.YtlgcmcieipdcgaaW.PrintWords
theorem RedoApart : RowRedoApart.Pure := by
  intro l from_ ps n h0 h1 h2 h3
  refine ⟨0, ?_⟩
  have hl : l.length * 144 ≤ 140737488351232 := by
    have := h0.2.1
    have e : Try.prog.bytesOf 58 = 144 := by kernel_rfl
    rwa [e] at this
  have hp : ps.length * 24 ≤ 140737488351232 := by
    have := h2.2.1
    have e : Try.prog.bytesOf 23 = 24 := by kernel_rfl
    rwa [e] at this
  unfold careenlaw14_RedoApart.f
  rw [if_pos ⟨fun x hx => (h0.2.2 x hx).2.2.2.2.2.2.2.2.2.1, hl, hp⟩]
theorem redoApart_holds : Rows.RedoApartSaid := RowRedoApart.holds RedoApart
end Go.Proofs.Ytlgcmcieipdcgaa.X14
