/- For every size and list of calls, the law WalKeeps returns true: behind any crashes the log has all records that were safe, and of the others a beginning, in order. For every size, list of calls and number, the law WalAgain returns true: a log that is opened, and opened once more without a write between, is the same both times. No condition. -/
import Derived.Test.YtbnglmeljbiglaaQDZ0
import Derived.Test.YtbnglmeljbiglaaQDZ1
import Derived.Test.YtbnglmeljbiglaaQDZ2
import Derived.Test.YtbnglmeljbiglaaQDZ3
import Derived.Test.YtbnglmeljbiglaaQDZ4
import Derived.Test.YtbnglmeljbiglaaQDZ5
import Derived.Test.YtbnglmeljbiglaaQDZ6
import Derived.Test.YtbnglmeljbiglaaQDZ7
import Derived.Test.YtbnglmeljbiglaaQDZ8
import Derived.Test.YtbnglmeljbiglaaQDZ9
import Derived.Test.YtbnglmeljbiglaaQDZ10
import Derived.Test.YtbnglmeljbiglaaQDZ11
import Derived.Test.YtbnglmeljbiglaaQDZ12
import Derived.Test.YtbnglmeljbiglaaQDZ13
import Derived.Test.YtbnglmeljbiglaaQDZ14
import Derived.Test.YtbnglmeljbiglaaQDZ15
import Derived.Test.YtbnglmeljbiglaaQDZ16
import Derived.Test.YtbnglmeljbiglaaQDZ17
import Derived.Test.YtbnglmeljbiglaaQDZ18
import Derived.Test.YtbnglmeljbiglaaQDZ19
import Derived.Test.YtbnglmeljbiglaaQDZ20
import Derived.Test.YtbnglmeljbiglaaQDZ21
import Derived.Test.YtbnglmeljbiglaaQDZ22
set_option maxRecDepth 8192
namespace Go.Proofs.Ytbnglmeljbiglaa.X4
open Go Go.RowKit Go.Proofs.Ytbnglmeljbiglaa.X4 Go.Proofs.YtbnglmeljbiglaaW.PrintWords
namespace RowWalKeeps
theorem wfi {x : Int} (h : (Lit.int .i64 x).wf = true) : -9223372036854775808 ≤ x ∧ x < 9223372036854775808 := by
  simp only [Lit.wf, Bool.and_eq_true, decide_eq_true_eq] at h
  have h2 : IntKind.i64.min ≤ x ∧ x ≤ IntKind.i64.max := h
  simp only [show IntKind.i64.min = -9223372036854775808 from rfl, show IntKind.i64.max = 9223372036854775807 from rfl] at h2
  omega
theorem wfb {x : Int} (h : (Lit.int .u8 x).wf = true) : 0 ≤ x ∧ x < 256 := by
  simp only [Lit.wf, Bool.and_eq_true, decide_eq_true_eq] at h
  have h2 : IntKind.u8.min ≤ x ∧ x ≤ IntKind.u8.max := h
  simp only [show IntKind.u8.min = 0 from rfl, show IntKind.u8.max = 255 from rfl] at h2
  omega
theorem okOps {l : List S40} (h : ∀ y ∈ l, W40 y) : OkOps l := fun y hy => ⟨wfi (h y hy).1, wfi (h y hy).2.1, fun z hz => wfb ((h y hy).2.2.2.2.2 z hz)⟩
end RowWalKeeps
theorem WalKeeps : RowWalKeeps.Pure := by
  intro x0 x1 h0 h1
  refine ⟨0, ?_⟩
  unfold careenlaw05_WalKeeps.f
  exact if_pos (RowWalKeeps.okOps h1.2.2)
theorem walKeeps_holds : Rows.WalKeepsSaid := RowWalKeeps.holds WalKeeps
end Go.Proofs.Ytbnglmeljbiglaa.X4
namespace Go.Proofs.Ytbnglmeljbiglaa.X4
open Go Go.RowKit Go.Proofs.Ytbnglmeljbiglaa.X4 Go.Proofs.YtbnglmeljbiglaaW.PrintWords
namespace RowWalAgain
theorem wfi {x : Int} (h : (Lit.int .i64 x).wf = true) : -9223372036854775808 ≤ x ∧ x < 9223372036854775808 := by
  simp only [Lit.wf, Bool.and_eq_true, decide_eq_true_eq] at h
  have h2 : IntKind.i64.min ≤ x ∧ x ≤ IntKind.i64.max := h
  simp only [show IntKind.i64.min = -9223372036854775808 from rfl, show IntKind.i64.max = 9223372036854775807 from rfl] at h2
  omega
theorem wfb {x : Int} (h : (Lit.int .u8 x).wf = true) : 0 ≤ x ∧ x < 256 := by
  simp only [Lit.wf, Bool.and_eq_true, decide_eq_true_eq] at h
  have h2 : IntKind.u8.min ≤ x ∧ x ≤ IntKind.u8.max := h
  simp only [show IntKind.u8.min = 0 from rfl, show IntKind.u8.max = 255 from rfl] at h2
  omega
theorem okOps {l : List S40} (h : ∀ y ∈ l, W40 y) : OkOps l := fun y hy => ⟨wfi (h y hy).1, wfi (h y hy).2.1, fun z hz => wfb ((h y hy).2.2.2.2.2 z hz)⟩
end RowWalAgain
theorem WalAgain : RowWalAgain.Pure := by
  intro x0 x1 x2 h0 h1 h2
  refine ⟨0, ?_⟩
  unfold careenlaw05_WalAgain.f
  exact if_pos (RowWalAgain.okOps h1.2.2)
theorem walAgain_holds : Rows.WalAgainSaid := RowWalAgain.holds WalAgain
end Go.Proofs.Ytbnglmeljbiglaa.X4
