/- For every number and list of calls, the law StoreOpens returns true: a store that is opened anew has the same pages, and its tickets go on. No condition. -/
import Derived.Test.YtneilimiijcghaaQOZ0
import Derived.Test.YtneilimiijcghaaQOZ1
import Derived.Test.YtneilimiijcghaaQOZ2
import Derived.Test.YtneilimiijcghaaQOZ3
import Derived.Test.YtneilimiijcghaaQOZ4
import Derived.Test.YtneilimiijcghaaQOZ5
import Derived.Test.YtneilimiijcghaaQOZ6
import Derived.Test.YtneilimiijcghaaQOZ7
import Derived.Test.YtneilimiijcghaaQOZ8
import Derived.Test.YtneilimiijcghaaQOZ9
import Derived.Test.YtneilimiijcghaaQOZ10
namespace Go.Proofs.Ytneilimiijcghaa.X12
open Go Go.RowKit Go.Proofs.YtneilimiijcghaaW.PrintWords
namespace RowStoreOpens
theorem wfi {x : Int} (h : (Lit.int .i64 x).wf = true) : -9223372036854775808 ≤ x ∧ x < 9223372036854775808 := by
  simp only [Lit.wf, Bool.and_eq_true, decide_eq_true_eq] at h
  have h2 : IntKind.i64.min ≤ x ∧ x ≤ IntKind.i64.max := h
  simp only [show IntKind.i64.min = -9223372036854775808 from rfl, show IntKind.i64.max = 9223372036854775807 from rfl] at h2
  omega
theorem wfb {x : Int} (h : (Lit.int .u8 x).wf = true) : 0 ≤ x ∧ x < 256 := by
  simp only [Lit.wf, Bool.and_eq_true, decide_eq_true_eq] at h
  have h2 : IntKind.u8.min ≤ x ∧ x ≤ IntKind.u8.max := h
  simp only [show IntKind.u8.min = 0 from rfl, show IntKind.u8.max = 255 from rfl] at h2
  omega
theorem okOps {l : List S39} (h : ∀ y ∈ l, W39 y) : OkOps l := fun y hy => ⟨wfi (h y hy).1, wfi (h y hy).2.1, wfi (h y hy).2.2.1, wfi (h y hy).2.2.2.1.1, fun z hz => wfb ((h y hy).2.2.2.2.2.2 z hz)⟩
end RowStoreOpens
theorem StoreOpens : RowStoreOpens.Pure := by
  intro x0 x1 h0 h1
  refine ⟨0, ?_⟩
  unfold careenlaw07_StoreOpens.f
  exact if_pos (RowStoreOpens.okOps h1.2.2)
theorem storeOpens_holds : Rows.StoreOpensSaid := RowStoreOpens.holds StoreOpens
end Go.Proofs.Ytneilimiijcghaa.X12
