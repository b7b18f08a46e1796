/- For every number, the law TapeNil returns true: a tape that is none has no records. For every size and list of calls, the law TapeGrows returns true: what is on the tape stays there, in its order; its end never falls. No condition. -/
import Derived.Test.YtbnglmeljbiglaaQHZ0
import Derived.Test.YtbnglmeljbiglaaQHZ1
import Derived.Test.YtbnglmeljbiglaaQHZ2
import Derived.Test.YtbnglmeljbiglaaQHZ3
import Derived.Test.YtbnglmeljbiglaaQHZ4
import Derived.Test.YtbnglmeljbiglaaQHZ5
import Derived.Test.YtbnglmeljbiglaaQHZ6
import Derived.Test.YtbnglmeljbiglaaQHZ7
import Derived.Test.YtbnglmeljbiglaaQHZ8
import Derived.Test.YtbnglmeljbiglaaQHZ9
import Derived.Test.YtbnglmeljbiglaaQHZ10
import Derived.Test.YtbnglmeljbiglaaQHZ11
import Derived.Test.YtbnglmeljbiglaaQHZ12
import Derived.Test.YtbnglmeljbiglaaQHZ13
import Derived.Test.YtbnglmeljbiglaaQHZ14
import Derived.Test.YtbnglmeljbiglaaQHZ15
import Derived.Test.YtbnglmeljbiglaaQHZ16
import Derived.Test.YtbnglmeljbiglaaQHZ17
import Derived.Test.YtbnglmeljbiglaaQHZ18
set_option maxRecDepth 8192
namespace Go.Proofs.Ytbnglmeljbiglaa.X4
open Go Go.RowKit Go.Proofs.Ytbnglmeljbiglaa.X4 Go.Proofs.YtbnglmeljbiglaaW.PrintWords
namespace RowTapeNil
theorem wfi {x : Int} (h : (Lit.int .i64 x).wf = true) : -9223372036854775808 ≤ x ∧ x < 9223372036854775808 := by
  simp only [Lit.wf, Bool.and_eq_true, decide_eq_true_eq] at h
  have h2 : IntKind.i64.min ≤ x ∧ x ≤ IntKind.i64.max := h
  simp only [show IntKind.i64.min = -9223372036854775808 from rfl, show IntKind.i64.max = 9223372036854775807 from rfl] at h2
  omega
theorem wfb {x : Int} (h : (Lit.int .u8 x).wf = true) : 0 ≤ x ∧ x < 256 := by
  simp only [Lit.wf, Bool.and_eq_true, decide_eq_true_eq] at h
  have h2 : IntKind.u8.min ≤ x ∧ x ≤ IntKind.u8.max := h
  simp only [show IntKind.u8.min = 0 from rfl, show IntKind.u8.max = 255 from rfl] at h2
  omega

end RowTapeNil
theorem TapeNil : RowTapeNil.Pure := by
  unfold RowTapeNil.Pure
  intros
  exact ⟨0, rfl⟩
theorem tapeNil_holds : Rows.TapeNilSaid := RowTapeNil.holds TapeNil
end Go.Proofs.Ytbnglmeljbiglaa.X4
namespace Go.Proofs.Ytbnglmeljbiglaa.X4
open Go Go.RowKit Go.Proofs.Ytbnglmeljbiglaa.X4 Go.Proofs.YtbnglmeljbiglaaW.PrintWords
namespace RowTapeGrows
theorem wfi {x : Int} (h : (Lit.int .i64 x).wf = true) : -9223372036854775808 ≤ x ∧ x < 9223372036854775808 := by
  simp only [Lit.wf, Bool.and_eq_true, decide_eq_true_eq] at h
  have h2 : IntKind.i64.min ≤ x ∧ x ≤ IntKind.i64.max := h
  simp only [show IntKind.i64.min = -9223372036854775808 from rfl, show IntKind.i64.max = 9223372036854775807 from rfl] at h2
  omega
theorem wfb {x : Int} (h : (Lit.int .u8 x).wf = true) : 0 ≤ x ∧ x < 256 := by
  simp only [Lit.wf, Bool.and_eq_true, decide_eq_true_eq] at h
  have h2 : IntKind.u8.min ≤ x ∧ x ≤ IntKind.u8.max := h
  simp only [show IntKind.u8.min = 0 from rfl, show IntKind.u8.max = 255 from rfl] at h2
  omega

end RowTapeGrows
theorem TapeGrows : RowTapeGrows.Pure := by
  unfold RowTapeGrows.Pure
  intros
  exact ⟨0, rfl⟩
theorem tapeGrows_holds : Rows.TapeGrowsSaid := RowTapeGrows.holds TapeGrows
end Go.Proofs.Ytbnglmeljbiglaa.X4
