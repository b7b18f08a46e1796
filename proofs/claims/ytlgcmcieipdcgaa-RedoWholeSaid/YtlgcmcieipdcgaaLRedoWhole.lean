/- For every list of entries, bytes and number, the law RedoWhole returns true: pages each of which has a beginning of its own changes all come to have all changes. No condition. -/
import Derived.Test.YtlgcmcieipdcgaaX14RowRedoWhole
namespace Go.Proofs.Ytlgcmcieipdcgaa.X14
open Go Go.RowKit Go.Proofs.YtlgcmcieipdcgaaW.PrintWords
theorem RedoWhole : RowRedoWhole.Pure := by
  intro l hv early h0 h1 h2
  refine ⟨0, ?_⟩
  have hl : l.length * 144 ≤ 140737488351232 := by
    have := h0.2.1
    have e : Try.prog.bytesOf 58 = 144 := by kernel_rfl
    rwa [e] at this
  have hh : hv.length ≤ 140737488351232 := by
    have := h1.2.1
    have e : Try.prog.bytesOf 5 = 1 := by kernel_rfl
    rw [e] at this
    omega
  have hb : ∀ x ∈ hv, 0 ≤ x ∧ x < 256 := by
    intro x hx
    have := h1.2.2 x hx
    simp only [Lit.wf, Bool.and_eq_true, decide_eq_true_eq] at this
    have h2 : IntKind.u8.min ≤ x ∧ x ≤ IntKind.u8.max := this
    simp only [show IntKind.u8.min = 0 from rfl, show IntKind.u8.max = 255 from rfl] at h2
    omega
  unfold careenlaw14_RedoWhole.f
  rw [if_pos ⟨fun x hx => (h0.2.2 x hx).2.2.2.2.2.2.2.2.2.1, hl, hh, hb⟩]
theorem redoWhole_holds : Rows.RedoWholeSaid := RowRedoWhole.holds RedoWhole
end Go.Proofs.Ytlgcmcieipdcgaa.X14
