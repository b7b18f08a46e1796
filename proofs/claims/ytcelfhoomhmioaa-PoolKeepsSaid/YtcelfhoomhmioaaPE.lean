/- For every sizes and list of calls, the law PoolHolds returns true: a page that was got is in a frame, and no other page is in that; there are never more pages in frames than frames. For every sizes and list of calls, the law PoolKeeps returns true: through the pool each page is what was put last, with however few frames; and no page of the store has a record that isn't safe in the log. No condition. -/
import Derived.Test.YtcelfhoomhmioaaPEZ0
import Derived.Test.YtcelfhoomhmioaaPEZ1
import Derived.Test.YtcelfhoomhmioaaPEZ2
import Derived.Test.YtcelfhoomhmioaaPEZ3
import Derived.Test.YtcelfhoomhmioaaPEZ4
import Derived.Test.YtcelfhoomhmioaaPEZ5
import Derived.Test.YtcelfhoomhmioaaPEZ6
import Derived.Test.YtcelfhoomhmioaaPEZ7
import Derived.Test.YtcelfhoomhmioaaPEZ8
import Derived.Test.YtcelfhoomhmioaaPEZ9
import Derived.Test.YtcelfhoomhmioaaPEZ10
import Derived.Test.YtcelfhoomhmioaaPEZ11
import Derived.Test.YtcelfhoomhmioaaPEZ12
import Derived.Test.YtcelfhoomhmioaaPEZ13
import Derived.Test.YtcelfhoomhmioaaPEZ14
import Derived.Test.YtcelfhoomhmioaaPEZ15
import Derived.Test.YtcelfhoomhmioaaPEZ16
import Derived.Test.YtcelfhoomhmioaaPEZ17
import Derived.Test.YtcelfhoomhmioaaPEZ18
import Derived.Test.YtcelfhoomhmioaaPEZ19
import Derived.Test.YtcelfhoomhmioaaPEZ20
import Derived.Test.YtcelfhoomhmioaaPEZ21
set_option maxRecDepth 8192
namespace Go.Proofs.Ytcelfhoomhmioaa.X4
open Go Go.RowKit Go.Proofs.YtcelfhoomhmioaaW.PrintWords
theorem PoolHolds : RowPoolHolds.Pure := by
  intro x0 x1 h0 h1
  refine ⟨0, ?_⟩
  exact if_pos (careenlaw08_PoolHolds.wfz h0.2.2)
theorem poolHolds_holds : Rows.PoolHoldsSaid := RowPoolHolds.holds PoolHolds
end Go.Proofs.Ytcelfhoomhmioaa.X4
namespace Go.Proofs.Ytcelfhoomhmioaa.X4
open Go Go.RowKit Go.Proofs.YtcelfhoomhmioaaW.PrintWords
theorem PoolKeeps : RowPoolKeeps.Pure := by
  intro x0 x1 h0 h1
  refine ⟨0, ?_⟩
  exact if_pos (careenlaw08_PoolKeeps.wfz h0.2.2)
theorem poolKeeps_holds : Rows.PoolKeepsSaid := RowPoolKeeps.holds PoolKeeps
end Go.Proofs.Ytcelfhoomhmioaa.X4
