/- The laws RecordSame, RecordOne, RecordTold and RecordLong return true for all arguments. No condition. -/
import Derived.Test.YtcfknakmamcinaaQBZ0
import Derived.Test.YtcfknakmamcinaaQBZ1
import Derived.Test.YtcfknakmamcinaaQBZ2
import Derived.Test.YtcfknakmamcinaaQBZ3
import Derived.Test.YtcfknakmamcinaaQBZ4
import Derived.Test.YtcfknakmamcinaaQBZ5
import Derived.Test.YtcfknakmamcinaaQBZ6
import Derived.Test.YtcfknakmamcinaaQBZ7
import Derived.Test.YtcfknakmamcinaaQBZ8
import Derived.Test.YtcfknakmamcinaaQBZ9
import Derived.Test.YtcfknakmamcinaaQBZ10
import Derived.Test.YtcfknakmamcinaaQBZ11
import Derived.Test.YtcfknakmamcinaaQBZ12
import Derived.Test.YtcfknakmamcinaaQBZ13
import Derived.Test.YtcfknakmamcinaaQBZ14
import Derived.Test.YtcfknakmamcinaaQBZ15
import Derived.Test.YtcfknakmamcinaaQBZ16
import Derived.Test.YtcfknakmamcinaaQBZ17
import Derived.Test.YtcfknakmamcinaaQBZ18
import Derived.Test.YtcfknakmamcinaaQBZ19
import Derived.Test.YtcfknakmamcinaaQBZ20
import Derived.Test.YtcfknakmamcinaaQBZ21
import Derived.Test.YtcfknakmamcinaaQBZ22
namespace Go.Proofs.Ytcfknakmamcinaa.X4b
theorem recordSame_told : Rows.RecordSameSaid := recordSame_holds
theorem recordOne_told : Rows.RecordOneSaid := recordOne_holds
theorem recordTold_told : Rows.RecordToldSaid := recordTold_holds
theorem recordLong_told : Rows.RecordLongSaid := recordLong_holds
end Go.Proofs.Ytcfknakmamcinaa.X4b
