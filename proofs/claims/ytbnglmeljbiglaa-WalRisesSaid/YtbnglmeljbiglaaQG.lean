/- For every list of records and place, the law WalRises returns true: places rise; each record is read at its place; those from a place on are the last ones. No condition. -/
import Derived.Test.YtbnglmeljbiglaaQGZ0
import Derived.Test.YtbnglmeljbiglaaQGZ1
import Derived.Test.YtbnglmeljbiglaaQGZ2
import Derived.Test.YtbnglmeljbiglaaQGZ3
import Derived.Test.YtbnglmeljbiglaaQGZ4
import Derived.Test.YtbnglmeljbiglaaQGZ5
import Derived.Test.YtbnglmeljbiglaaQGZ6
import Derived.Test.YtbnglmeljbiglaaQGZ7
import Derived.Test.YtbnglmeljbiglaaQGZ8
import Derived.Test.YtbnglmeljbiglaaQGZ9
import Derived.Test.YtbnglmeljbiglaaQGZ10
import Derived.Test.YtbnglmeljbiglaaQGZ11
import Derived.Test.YtbnglmeljbiglaaQGZ12
import Derived.Test.YtbnglmeljbiglaaQGZ13
import Derived.Test.YtbnglmeljbiglaaQGZ14
import Derived.Test.YtbnglmeljbiglaaQGZ15
import Derived.Test.YtbnglmeljbiglaaQGZ16
import Derived.Test.YtbnglmeljbiglaaQGZ17
import Derived.Test.YtbnglmeljbiglaaQGZ18
import Derived.Test.YtbnglmeljbiglaaQGZ19
import Derived.Test.YtbnglmeljbiglaaQGZ20
import Derived.Test.YtbnglmeljbiglaaQGZ21
import Derived.Test.YtbnglmeljbiglaaQGZ22
import Derived.Test.YtbnglmeljbiglaaQGZ23
set_option maxRecDepth 8192
namespace Go.Proofs.Ytbnglmeljbiglaa.X4
open Go Go.RowKit Go.Proofs.Ytbnglmeljbiglaa.X4 Go.Proofs.YtbnglmeljbiglaaW.PrintWords
namespace RowWalRises
theorem wfi {x : Int} (h : (Lit.int .i64 x).wf = true) : -9223372036854775808 ≤ x ∧ x < 9223372036854775808 := by
  simp only [Lit.wf, Bool.and_eq_true, decide_eq_true_eq] at h
  have h2 : IntKind.i64.min ≤ x ∧ x ≤ IntKind.i64.max := h
  simp only [show IntKind.i64.min = -9223372036854775808 from rfl, show IntKind.i64.max = 9223372036854775807 from rfl] at h2
  omega
theorem wfb {x : Int} (h : (Lit.int .u8 x).wf = true) : 0 ≤ x ∧ x < 256 := by
  simp only [Lit.wf, Bool.and_eq_true, decide_eq_true_eq] at h
  have h2 : IntKind.u8.min ≤ x ∧ x ≤ IntKind.u8.max := h
  simp only [show IntKind.u8.min = 0 from rfl, show IntKind.u8.max = 255 from rfl] at h2
  omega

end RowWalRises
theorem WalRises : RowWalRises.Pure := by
  unfold RowWalRises.Pure
  intros
  exact ⟨0, rfl⟩
theorem walRises_holds : Rows.WalRisesSaid := RowWalRises.holds WalRises
end Go.Proofs.Ytbnglmeljbiglaa.X4
