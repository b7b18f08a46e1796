/- For every sizes and list of calls, the law PoolHolds returns true: a page that was got is in a frame, and no other page is in that; there are never more pages in frames than frames. No condition. -/
import Derived.Test.YtcelfhoomhmioaaPBZ0
import Derived.Test.YtcelfhoomhmioaaPBZ1
import Derived.Test.YtcelfhoomhmioaaPBZ2
import Derived.Test.YtcelfhoomhmioaaPBZ3
import Derived.Test.YtcelfhoomhmioaaPBZ4
import Derived.Test.YtcelfhoomhmioaaPBZ5
import Derived.Test.YtcelfhoomhmioaaPBZ6
import Derived.Test.YtcelfhoomhmioaaPBZ7
import Derived.Test.YtcelfhoomhmioaaPBZ8
import Derived.Test.YtcelfhoomhmioaaPBZ9
import Derived.Test.YtcelfhoomhmioaaPBZ10
import Derived.Test.YtcelfhoomhmioaaPBZ11
import Derived.Test.YtcelfhoomhmioaaPBZ12
import Derived.Test.YtcelfhoomhmioaaPBZ13
import Derived.Test.YtcelfhoomhmioaaPBZ14
set_option maxRecDepth 8192
namespace Go.Proofs.Ytcelfhoomhmioaa.X4
open Go Go.RowKit Go.Proofs.YtcelfhoomhmioaaW.PrintWords
theorem PoolHolds : RowPoolHolds.Pure := by
  intro x0 x1 h0 h1
  refine ⟨0, ?_⟩
  exact if_pos (careenlaw08_PoolHolds.wfz h0.2.2)
theorem poolHolds_holds : Rows.PoolHoldsSaid := RowPoolHolds.holds PoolHolds
end Go.Proofs.Ytcelfhoomhmioaa.X4
