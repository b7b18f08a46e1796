/- For every number and two lists of calls, the law StoreWhole returns true: whatever a crash leaves, and however often opening is crashed itself, each page is as it was, but the one that was being written: that is as it was, or as it was to be. No condition. -/
import Derived.Test.YtneilimiijcghaaQWZ0
import Derived.Test.YtneilimiijcghaaQWZ1
import Derived.Test.YtneilimiijcghaaQWZ2
import Derived.Test.YtneilimiijcghaaQWZ3
import Derived.Test.YtneilimiijcghaaQWZ4
import Derived.Test.YtneilimiijcghaaQWZ5
import Derived.Test.YtneilimiijcghaaQWZ6
import Derived.Test.YtneilimiijcghaaQWZ7
import Derived.Test.YtneilimiijcghaaQWZ8
import Derived.Test.YtneilimiijcghaaQWZ9
import Derived.Test.YtneilimiijcghaaQWZ10
import Derived.Test.YtneilimiijcghaaQWZ11
import Derived.Test.YtneilimiijcghaaQWZ12
import Derived.Test.YtneilimiijcghaaQWZ13
import Derived.Test.YtneilimiijcghaaQWZ14
namespace Go.Proofs.Ytneilimiijcghaa.X12
open Go Go.RowKit Go.Proofs.YtneilimiijcghaaW.PrintWords
namespace RowStoreWhole
theorem wfi {x : Int} (h : (Lit.int .i64 x).wf = true) : -9223372036854775808 ≤ x ∧ x < 9223372036854775808 := by
  simp only [Lit.wf, Bool.and_eq_true, decide_eq_true_eq] at h
  have h2 : IntKind.i64.min ≤ x ∧ x ≤ IntKind.i64.max := h
  simp only [show IntKind.i64.min = -9223372036854775808 from rfl, show IntKind.i64.max = 9223372036854775807 from rfl] at h2
  omega
theorem wfb {x : Int} (h : (Lit.int .u8 x).wf = true) : 0 ≤ x ∧ x < 256 := by
  simp only [Lit.wf, Bool.and_eq_true, decide_eq_true_eq] at h
  have h2 : IntKind.u8.min ≤ x ∧ x ≤ IntKind.u8.max := h
  simp only [show IntKind.u8.min = 0 from rfl, show IntKind.u8.max = 255 from rfl] at h2
  omega
theorem okOps {l : List S39} (h : ∀ y ∈ l, W39 y) : OkOps l := fun y hy => ⟨wfi (h y hy).1, wfi (h y hy).2.1, wfi (h y hy).2.2.1, wfi (h y hy).2.2.2.1.1, fun z hz => wfb ((h y hy).2.2.2.2.2.2 z hz)⟩
end RowStoreWhole
theorem StoreWhole : RowStoreWhole.Pure := by
  intro x0 x1 x2 h0 h1 h2
  refine ⟨0, ?_⟩
  unfold careenlaw07_StoreWhole.f
  exact if_pos ⟨RowStoreWhole.okOps h1.2.2, RowStoreWhole.okOps h2.2.2⟩
theorem storeWhole_holds : Rows.StoreWholeSaid := RowStoreWhole.holds StoreWhole
end Go.Proofs.Ytneilimiijcghaa.X12
