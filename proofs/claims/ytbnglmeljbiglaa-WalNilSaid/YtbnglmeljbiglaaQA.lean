/- For every record and place, the law WalNil returns true: a log that is none has no records. No condition. -/
import Derived.Test.YtbnglmeljbiglaaQAZ0
import Derived.Test.YtbnglmeljbiglaaQAZ1
import Derived.Test.YtbnglmeljbiglaaQAZ2
import Derived.Test.YtbnglmeljbiglaaQAZ3
import Derived.Test.YtbnglmeljbiglaaQAZ4
import Derived.Test.YtbnglmeljbiglaaQAZ5
import Derived.Test.YtbnglmeljbiglaaQAZ6
import Derived.Test.YtbnglmeljbiglaaQAZ7
import Derived.Test.YtbnglmeljbiglaaQAZ8
import Derived.Test.YtbnglmeljbiglaaQAZ9
import Derived.Test.YtbnglmeljbiglaaQAZ10
import Derived.Test.YtbnglmeljbiglaaQAZ11
import Derived.Test.YtbnglmeljbiglaaQAZ12
import Derived.Test.YtbnglmeljbiglaaQAZ13
import Derived.Test.YtbnglmeljbiglaaQAZ14
import Derived.Test.YtbnglmeljbiglaaQAZ15
import Derived.Test.YtbnglmeljbiglaaQAZ16
import Derived.Test.YtbnglmeljbiglaaQAZ17
set_option maxRecDepth 8192
namespace Go.Proofs.Ytbnglmeljbiglaa.X4
open Go Go.RowKit Go.Proofs.YtbnglmeljbiglaaW.PrintWords
theorem WalNil : RowWalNil.Pure := by
  unfold RowWalNil.Pure
  intros
  exact ⟨0, rfl⟩
theorem walNil_holds : Rows.WalNilSaid := RowWalNil.holds WalNil
end Go.Proofs.Ytbnglmeljbiglaa.X4
