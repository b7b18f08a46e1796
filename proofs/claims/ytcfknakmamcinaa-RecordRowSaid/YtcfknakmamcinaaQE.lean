/- For every list of records, the law RecordRow returns true: records printed one behind the other are all told, in order, each where it begins. No condition. -/
import Derived.Test.YtcfknakmamcinaaQEZ0
import Derived.Test.YtcfknakmamcinaaQEZ1
import Derived.Test.YtcfknakmamcinaaQEZ2
import Derived.Test.YtcfknakmamcinaaQEZ3
import Derived.Test.YtcfknakmamcinaaQEZ4
import Derived.Test.YtcfknakmamcinaaQEZ5
import Derived.Test.YtcfknakmamcinaaQEZ6
import Derived.Test.YtcfknakmamcinaaQEZ7
import Derived.Test.YtcfknakmamcinaaQEZ8
import Derived.Test.YtcfknakmamcinaaQEZ9
import Derived.Test.YtcfknakmamcinaaQEZ10
import Derived.Test.YtcfknakmamcinaaQEZ11
import Derived.Test.YtcfknakmamcinaaQEZ12
import Derived.Test.YtcfknakmamcinaaQEZ13
import Derived.Test.YtcfknakmamcinaaQEZ14
import Derived.Test.YtcfknakmamcinaaQEZ15
import Derived.Test.YtcfknakmamcinaaQEZ16
import Derived.Test.YtcfknakmamcinaaQEZ17
import Derived.Test.YtcfknakmamcinaaQEZ18
import Derived.Test.YtcfknakmamcinaaQEZ19
import Derived.Test.YtcfknakmamcinaaQEZ20
import Derived.Test.YtcfknakmamcinaaQEZ21
namespace Go.Proofs.Ytcfknakmamcinaa.X4b
theorem RecordRow : RowRecordRow.Pure := by
  intro x0 h0
  exact ⟨0, rfl⟩
theorem recordRow_holds : Rows.RecordRowSaid := RowRecordRow.holds RecordRow
end Go.Proofs.Ytcfknakmamcinaa.X4b
