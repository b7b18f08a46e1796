/- For every number and page, the law PoolNil returns true: a pool that is none has no frames. For every two pages, the law PoolDrops returns true: a page that is let go as it is has lost what was put since it was written; others have not. No condition. -/
import Derived.Test.YtcelfhoomhmioaaPAZ0
import Derived.Test.YtcelfhoomhmioaaPAZ1
import Derived.Test.YtcelfhoomhmioaaPAZ2
import Derived.Test.YtcelfhoomhmioaaPAZ3
import Derived.Test.YtcelfhoomhmioaaPAZ4
import Derived.Test.YtcelfhoomhmioaaPAZ5
import Derived.Test.YtcelfhoomhmioaaPAZ6
import Derived.Test.YtcelfhoomhmioaaPAZ7
import Derived.Test.YtcelfhoomhmioaaPAZ8
import Derived.Test.YtcelfhoomhmioaaPAZ9
import Derived.Test.YtcelfhoomhmioaaPAZ10
import Derived.Test.YtcelfhoomhmioaaPAZ11
import Derived.Test.YtcelfhoomhmioaaPAZ12
import Derived.Test.YtcelfhoomhmioaaPAZ13
import Derived.Test.YtcelfhoomhmioaaPAZ14
set_option maxRecDepth 8192
namespace Go.Proofs.Ytcelfhoomhmioaa.X4
open Go Go.RowKit Go.Proofs.YtcelfhoomhmioaaW.PrintWords
theorem PoolNil : RowPoolNil.Pure := by
  unfold RowPoolNil.Pure
  intros
  exact ⟨0, rfl⟩
theorem poolNil_holds : Rows.PoolNilSaid := RowPoolNil.holds PoolNil
end Go.Proofs.Ytcelfhoomhmioaa.X4
namespace Go.Proofs.Ytcelfhoomhmioaa.X4
open Go Go.RowKit Go.Proofs.YtcelfhoomhmioaaW.PrintWords
theorem PoolDrops : RowPoolDrops.Pure := by
  unfold RowPoolDrops.Pure
  intros
  exact ⟨0, rfl⟩
theorem poolDrops_holds : Rows.PoolDropsSaid := RowPoolDrops.holds PoolDrops
end Go.Proofs.Ytcelfhoomhmioaa.X4
