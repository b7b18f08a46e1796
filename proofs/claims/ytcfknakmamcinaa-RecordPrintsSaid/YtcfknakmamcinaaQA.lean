/- For every record, the law RecordPrints returns true: it has the bytes that the document says, at most 112, or none. No condition. -/
import Derived.Test.YtcfknakmamcinaaQAZ0
import Derived.Test.YtcfknakmamcinaaQAZ1
import Derived.Test.YtcfknakmamcinaaQAZ2
import Derived.Test.YtcfknakmamcinaaQAZ3
import Derived.Test.YtcfknakmamcinaaQAZ4
import Derived.Test.YtcfknakmamcinaaQAZ5
import Derived.Test.YtcfknakmamcinaaQAZ6
import Derived.Test.YtcfknakmamcinaaQAZ7
import Derived.Test.YtcfknakmamcinaaQAZ8
import Derived.Test.YtcfknakmamcinaaQAZ9
import Derived.Test.YtcfknakmamcinaaQAZ10
import Derived.Test.YtcfknakmamcinaaQAZ11
import Derived.Test.YtcfknakmamcinaaQAZ12
import Derived.Test.YtcfknakmamcinaaQAZ13
import Derived.Test.YtcfknakmamcinaaQAZ14
import Derived.Test.YtcfknakmamcinaaQAZ15
import Derived.Test.YtcfknakmamcinaaQAZ16
import Derived.Test.YtcfknakmamcinaaQAZ17
import Derived.Test.YtcfknakmamcinaaQAZ18
import Derived.Test.YtcfknakmamcinaaQAZ19
import Derived.Test.YtcfknakmamcinaaQAZ20
import Derived.Test.YtcfknakmamcinaaQAZ21
import Derived.Test.YtcfknakmamcinaaQAZ22
import Derived.Test.YtcfknakmamcinaaQAZ23
import Derived.Test.YtcfknakmamcinaaQAZ24
import Derived.Test.YtcfknakmamcinaaQAZ25
import Derived.Test.YtcfknakmamcinaaQAZ26
namespace Go.Proofs.Ytcfknakmamcinaa.X4b
open Go Go.RowKit Go.Proofs.YtcfknakmamcinaaW.PrintWords Go.Proofs.Ytcfknakmamcinaa.X4 Go.Proofs.Ytcfknakmamcinaa.Rp Go.Proofs.Ytcfknakmamcinaa.Wr Go.Proofs.Ytcfknakmamcinaa.Pt
set_option linter.unusedVariables false
set_option linter.unusedSimpArgs false
theorem RecordPrints : RowRecordPrints.Pure := by
  intro x0 h0
  refine ⟨41, ?_⟩
  unfold careenlaw04_RecordPrints.f
  rw [awake_eq, few_f]
  simp only [Option.bind_some, if_true]
  by_cases fw : few x0
  · rw [show (!decide (few x0)) = false by simp [fw]]
    simp only [careenlaw04_RecordPrints.j0]
    rw [if_neg (by simp), print_f (by omega), may_f (by omega) (by omega)]
    simp only [Option.bind_some]
    rcases print_may (r := x0) with ⟨bs, hb, ho, hp, hm⟩ | ⟨hp, hm⟩
    · rw [hp, hm, if_pos rfl, if_pos rfl, rprint_eq hb 40 (by omega)]
      have := (rec_len hb).2.1
      simp only [Option.bind_some, if_true, B_size]
      congr 1
      rw [decide_eq_true_eq]
      omega
    · rw [hp, hm, if_neg (by simp), if_pos toList_nil]
      rfl
  · rw [show (!decide (few x0)) = true by simp [fw]]
    simp only [careenlaw04_RecordPrints.j0]
    rw [if_pos trivial, awake_eq]
    rfl
theorem recordPrints_holds : Rows.RecordPrintsSaid := RowRecordPrints.holds RecordPrints
end Go.Proofs.Ytcfknakmamcinaa.X4b
