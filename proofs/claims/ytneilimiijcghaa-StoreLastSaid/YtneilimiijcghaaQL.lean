/- For every list of calls, pair of numbers and page, the law StoreLast returns true: a page that was written reads as it was written last; others as they were; each write has the next ticket. No condition. -/
import Derived.Test.YtneilimiijcghaaQLZ0
import Derived.Test.YtneilimiijcghaaQLZ1
import Derived.Test.YtneilimiijcghaaQLZ2
import Derived.Test.YtneilimiijcghaaQLZ3
import Derived.Test.YtneilimiijcghaaQLZ4
import Derived.Test.YtneilimiijcghaaQLZ5
import Derived.Test.YtneilimiijcghaaQLZ6
import Derived.Test.YtneilimiijcghaaQLZ7
import Derived.Test.YtneilimiijcghaaQLZ8
import Derived.Test.YtneilimiijcghaaQLZ9
import Derived.Test.YtneilimiijcghaaQLZ10
import Derived.Test.YtneilimiijcghaaQLZ11
import Derived.Test.YtneilimiijcghaaQLZ12
namespace Go.Proofs.Ytneilimiijcghaa.X12
open Go Go.RowKit Go.Proofs.YtneilimiijcghaaW.PrintWords
namespace RowStoreLast
theorem wfi {x : Int} (h : (Lit.int .i64 x).wf = true) : -9223372036854775808 ≤ x ∧ x < 9223372036854775808 := by
  simp only [Lit.wf, Bool.and_eq_true, decide_eq_true_eq] at h
  have h2 : IntKind.i64.min ≤ x ∧ x ≤ IntKind.i64.max := h
  simp only [show IntKind.i64.min = -9223372036854775808 from rfl, show IntKind.i64.max = 9223372036854775807 from rfl] at h2
  omega
theorem wfb {x : Int} (h : (Lit.int .u8 x).wf = true) : 0 ≤ x ∧ x < 256 := by
  simp only [Lit.wf, Bool.and_eq_true, decide_eq_true_eq] at h
  have h2 : IntKind.u8.min ≤ x ∧ x ≤ IntKind.u8.max := h
  simp only [show IntKind.u8.min = 0 from rfl, show IntKind.u8.max = 255 from rfl] at h2
  omega
theorem okOps {l : List S39} (h : ∀ y ∈ l, W39 y) : OkOps l := fun y hy => ⟨wfi (h y hy).1, wfi (h y hy).2.1, wfi (h y hy).2.2.1, wfi (h y hy).2.2.2.1.1, fun z hz => wfb ((h y hy).2.2.2.2.2.2 z hz)⟩
end RowStoreLast
theorem StoreLast : RowStoreLast.Pure := by
  intro x0 x1 x2 x3 h0 h1 h2 h3
  refine ⟨0, ?_⟩
  unfold careenlaw07_StoreLast.f
  exact if_pos (RowStoreLast.okOps h0.2.2)
theorem storeLast_holds : Rows.StoreLastSaid := RowStoreLast.holds StoreLast
end Go.Proofs.Ytneilimiijcghaa.X12
