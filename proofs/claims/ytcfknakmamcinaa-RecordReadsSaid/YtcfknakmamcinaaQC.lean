/- For all bytes, and every place, the law RecordReads returns true: there stands the record that the document says, or none; all of a body are told in order. No condition. -/
import Derived.Test.YtcfknakmamcinaaQCZ0
import Derived.Test.YtcfknakmamcinaaQCZ1
import Derived.Test.YtcfknakmamcinaaQCZ2
import Derived.Test.YtcfknakmamcinaaQCZ3
import Derived.Test.YtcfknakmamcinaaQCZ4
import Derived.Test.YtcfknakmamcinaaQCZ5
import Derived.Test.YtcfknakmamcinaaQCZ6
import Derived.Test.YtcfknakmamcinaaQCZ7
import Derived.Test.YtcfknakmamcinaaQCZ8
import Derived.Test.YtcfknakmamcinaaQCZ9
import Derived.Test.YtcfknakmamcinaaQCZ10
import Derived.Test.YtcfknakmamcinaaQCZ11
import Derived.Test.YtcfknakmamcinaaQCZ12
import Derived.Test.YtcfknakmamcinaaQCZ13
import Derived.Test.YtcfknakmamcinaaQCZ14
import Derived.Test.YtcfknakmamcinaaQCZ15
import Derived.Test.YtcfknakmamcinaaQCZ16
import Derived.Test.YtcfknakmamcinaaQCZ17
import Derived.Test.YtcfknakmamcinaaQCZ18
import Derived.Test.YtcfknakmamcinaaQCZ19
import Derived.Test.YtcfknakmamcinaaQCZ20
import Derived.Test.YtcfknakmamcinaaQCZ21
import Derived.Test.YtcfknakmamcinaaQCZ22
import Derived.Test.YtcfknakmamcinaaQCZ23
import Derived.Test.YtcfknakmamcinaaQCZ24
import Derived.Test.YtcfknakmamcinaaQCZ25
import Derived.Test.YtcfknakmamcinaaQCZ26
namespace Go.Proofs.Ytcfknakmamcinaa.X4r
open Go Go.RowKit Go.Proofs.YtcfknakmamcinaaW.PrintWords Go.Proofs.Ytcfknakmamcinaa.X4 Go.Proofs.Ytcfknakmamcinaa.Rp Go.Proofs.Ytcfknakmamcinaa.Wr Go.Proofs.Ytcfknakmamcinaa.Pt
set_option linter.unusedVariables false
set_option linter.unusedSimpArgs false
theorem rawake_eq : X4r.careenlaw04_awake.f = some true := by
  unfold X4r.careenlaw04_awake.f
  simp only [record_Print.f, record_Read.f]
  rw [if_pos (by decide +kernel), if_pos (by decide +kernel), if_pos (by decide +kernel)]
  simp only [Option.bind_some, toList_bl]
  decide +kernel
theorem RecordReads : RowRecordReads.Pure := by
  intro x0 x1 h0 h1
  refine ⟨2001, ?_⟩
  unfold careenlaw04_RecordReads.f
  rw [rawake_eq]
  simp only [Option.bind_some, if_true]
  simp only [careenlaw04_RecordReads.j0]
  by_cases c : (x0.size : Int) > 1000
  · rw [if_pos (by simpa using c), rawake_eq]; rfl
  · rw [if_neg (by simpa using c), read_f (by omega), rread_f (by omega), all_f _ (by omega) _ (by omega), rall_f _ (by omega) _ (by omega)]
    simp only [Option.bind_some]
    have hr : (readF x0 x1).1.f9.length ≤ 8 ∧ (readF x0 x1).1.f10.length ≤ 8 := by
      by_cases e : (readF x0 x1).2.2 = 0
      · obtain ⟨bs, q, p0, hb, ho, -⟩ := read_some e
        exact ⟨(may_small hb ho).1, (may_small hb ho).2.1⟩
      · rw [(read_err e).1]; decide
    rw [rsame_f (by omega) (by omega)]
    simp only [Option.bind_some, decide_true, if_true]
    cases h : allF x0 with
    | none => 
      simp only [outA, outB]
      rw [sameall_f [] [] (fun e he => by cases he) (by simp) _ (by simp)]
      rfl
    | some l =>
      simp only [outA, outB, List.nil_append]
      have hl := allL_len _ _ _ h
      rw [sameall_f l l (allL_ok _ _ _ h) (by omega) _ (by omega)]
      simp
theorem recordReads_holds : Rows.RecordReadsSaid := RowRecordReads.holds RecordReads
end Go.Proofs.Ytcfknakmamcinaa.X4r
