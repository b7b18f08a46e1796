/- For every place and page, the law StoreNil returns true: a store that is none has no pages. No condition. -/
import Derived.Test.YtneilimiijcghaaQNZ0
import Derived.Test.YtneilimiijcghaaQNZ1
import Derived.Test.YtneilimiijcghaaQNZ2
import Derived.Test.YtneilimiijcghaaQNZ3
import Derived.Test.YtneilimiijcghaaQNZ4
import Derived.Test.YtneilimiijcghaaQNZ5
import Derived.Test.YtneilimiijcghaaQNZ6
import Derived.Test.YtneilimiijcghaaQNZ7
import Derived.Test.YtneilimiijcghaaQNZ8
import Derived.Test.YtneilimiijcghaaQNZ9
import Derived.Test.YtneilimiijcghaaQNZ10
namespace Go.Proofs.Ytneilimiijcghaa.X12
open Go Go.RowKit Go.Proofs.YtneilimiijcghaaW.PrintWords
theorem StoreNil : RowStoreNil.Pure := by
  unfold RowStoreNil.Pure
  intros
  exact ⟨0, rfl⟩
theorem storeNil_holds : Rows.StoreNilSaid := RowStoreNil.holds StoreNil
end Go.Proofs.Ytneilimiijcghaa.X12
