/- For every size, list of records and of flushes, the law WalRoom returns true: as many records can still be appended as there is room for, and the ring is full at last. No condition. -/
import Derived.Test.YtbnglmeljbiglaaQEZ0
import Derived.Test.YtbnglmeljbiglaaQEZ1
import Derived.Test.YtbnglmeljbiglaaQEZ2
import Derived.Test.YtbnglmeljbiglaaQEZ3
import Derived.Test.YtbnglmeljbiglaaQEZ4
import Derived.Test.YtbnglmeljbiglaaQEZ5
import Derived.Test.YtbnglmeljbiglaaQEZ6
import Derived.Test.YtbnglmeljbiglaaQEZ7
import Derived.Test.YtbnglmeljbiglaaQEZ8
import Derived.Test.YtbnglmeljbiglaaQEZ9
import Derived.Test.YtbnglmeljbiglaaQEZ10
import Derived.Test.YtbnglmeljbiglaaQEZ11
import Derived.Test.YtbnglmeljbiglaaQEZ12
import Derived.Test.YtbnglmeljbiglaaQEZ13
import Derived.Test.YtbnglmeljbiglaaQEZ14
import Derived.Test.YtbnglmeljbiglaaQEZ15
import Derived.Test.YtbnglmeljbiglaaQEZ16
import Derived.Test.YtbnglmeljbiglaaQEZ17
import Derived.Test.YtbnglmeljbiglaaQEZ18
import Derived.Test.YtbnglmeljbiglaaQEZ19
import Derived.Test.YtbnglmeljbiglaaQEZ20
import Derived.Test.YtbnglmeljbiglaaQEZ21
import Derived.Test.YtbnglmeljbiglaaQEZ22
import Derived.Test.YtbnglmeljbiglaaQEZ23
import Derived.Test.YtbnglmeljbiglaaQEZ24
import Derived.Test.YtbnglmeljbiglaaQEZ25
import Derived.Test.YtbnglmeljbiglaaQEZ26
set_option maxRecDepth 8192
namespace Go.Proofs.Ytbnglmeljbiglaa.X4
open Go Go.RowKit Go.Proofs.Ytbnglmeljbiglaa.X4 Go.Proofs.YtbnglmeljbiglaaW.PrintWords
namespace RowWalRoom
theorem wfi {x : Int} (h : (Lit.int .i64 x).wf = true) : -9223372036854775808 ≤ x ∧ x < 9223372036854775808 := by
  simp only [Lit.wf, Bool.and_eq_true, decide_eq_true_eq] at h
  have h2 : IntKind.i64.min ≤ x ∧ x ≤ IntKind.i64.max := h
  simp only [show IntKind.i64.min = -9223372036854775808 from rfl, show IntKind.i64.max = 9223372036854775807 from rfl] at h2
  omega
theorem wfb {x : Int} (h : (Lit.int .u8 x).wf = true) : 0 ≤ x ∧ x < 256 := by
  simp only [Lit.wf, Bool.and_eq_true, decide_eq_true_eq] at h
  have h2 : IntKind.u8.min ≤ x ∧ x ≤ IntKind.u8.max := h
  simp only [show IntKind.u8.min = 0 from rfl, show IntKind.u8.max = 255 from rfl] at h2
  omega

end RowWalRoom
theorem WalRoom : RowWalRoom.Pure := by
  unfold RowWalRoom.Pure
  intros
  exact ⟨0, rfl⟩
theorem walRoom_holds : Rows.WalRoomSaid := RowWalRoom.holds WalRoom
end Go.Proofs.Ytbnglmeljbiglaa.X4
