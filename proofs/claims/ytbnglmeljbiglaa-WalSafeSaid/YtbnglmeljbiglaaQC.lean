/- For every list of records and of flushes, the law WalSafe returns true: a record is safe just if a flush went by since it was appended; a flush of nothing writes nothing. No condition. -/
import Derived.Test.YtbnglmeljbiglaaQCZ0
import Derived.Test.YtbnglmeljbiglaaQCZ1
import Derived.Test.YtbnglmeljbiglaaQCZ2
import Derived.Test.YtbnglmeljbiglaaQCZ3
import Derived.Test.YtbnglmeljbiglaaQCZ4
import Derived.Test.YtbnglmeljbiglaaQCZ5
import Derived.Test.YtbnglmeljbiglaaQCZ6
import Derived.Test.YtbnglmeljbiglaaQCZ7
import Derived.Test.YtbnglmeljbiglaaQCZ8
import Derived.Test.YtbnglmeljbiglaaQCZ9
import Derived.Test.YtbnglmeljbiglaaQCZ10
import Derived.Test.YtbnglmeljbiglaaQCZ11
import Derived.Test.YtbnglmeljbiglaaQCZ12
import Derived.Test.YtbnglmeljbiglaaQCZ13
import Derived.Test.YtbnglmeljbiglaaQCZ14
import Derived.Test.YtbnglmeljbiglaaQCZ15
import Derived.Test.YtbnglmeljbiglaaQCZ16
import Derived.Test.YtbnglmeljbiglaaQCZ17
import Derived.Test.YtbnglmeljbiglaaQCZ18
import Derived.Test.YtbnglmeljbiglaaQCZ19
import Derived.Test.YtbnglmeljbiglaaQCZ20
import Derived.Test.YtbnglmeljbiglaaQCZ21
set_option maxRecDepth 8192
namespace Go.Proofs.Ytbnglmeljbiglaa.X4
open Go Go.RowKit Go.Proofs.Ytbnglmeljbiglaa.X4 Go.Proofs.YtbnglmeljbiglaaW.PrintWords
namespace RowWalSafe
theorem wfi {x : Int} (h : (Lit.int .i64 x).wf = true) : -9223372036854775808 ≤ x ∧ x < 9223372036854775808 := by
  simp only [Lit.wf, Bool.and_eq_true, decide_eq_true_eq] at h
  have h2 : IntKind.i64.min ≤ x ∧ x ≤ IntKind.i64.max := h
  simp only [show IntKind.i64.min = -9223372036854775808 from rfl, show IntKind.i64.max = 9223372036854775807 from rfl] at h2
  omega
theorem wfb {x : Int} (h : (Lit.int .u8 x).wf = true) : 0 ≤ x ∧ x < 256 := by
  simp only [Lit.wf, Bool.and_eq_true, decide_eq_true_eq] at h
  have h2 : IntKind.u8.min ≤ x ∧ x ≤ IntKind.u8.max := h
  simp only [show IntKind.u8.min = 0 from rfl, show IntKind.u8.max = 255 from rfl] at h2
  omega

end RowWalSafe
theorem WalSafe : RowWalSafe.Pure := by
  unfold RowWalSafe.Pure
  intros
  exact ⟨0, rfl⟩
theorem walSafe_holds : Rows.WalSafeSaid := RowWalSafe.holds WalSafe
end Go.Proofs.Ytbnglmeljbiglaa.X4
