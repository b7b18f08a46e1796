import Derived.Test.YtcfknakmamcinaaQEZ0
import Derived.Test.YtcfknakmamcinaaQEZ1
import Derived.Test.YtcfknakmamcinaaQEZ2
import Derived.Test.YtcfknakmamcinaaQEZ3
import Derived.Test.YtcfknakmamcinaaQEZ4
import Derived.Test.YtcfknakmamcinaaQEZ5
import Derived.Test.YtcfknakmamcinaaQEZ6
import Derived.Test.YtcfknakmamcinaaQEZ7
import Derived.Test.YtcfknakmamcinaaQEZ8
import Derived.Test.YtcfknakmamcinaaQEZ9
import Derived.Test.YtcfknakmamcinaaQEZ10
import Derived.Test.YtcfknakmamcinaaQEZ11
import Derived.Test.YtcfknakmamcinaaQEZ12
import Derived.Test.YtcfknakmamcinaaQEZ13
import Derived.Test.YtcfknakmamcinaaQEZ14
import Derived.Test.YtcfknakmamcinaaQEZ15
import Derived.Test.YtcfknakmamcinaaQEZ16
import Derived.Test.YtcfknakmamcinaaQEZ17
namespace Go.Proofs.Ytcfknakmamcinaa.Pt
open Go Go.RowKit Go.Proofs.YtcfknakmamcinaaW.PrintWords Go.Proofs.Ytcfknakmamcinaa.X4 Go.Proofs.Ytcfknakmamcinaa.X4b Go.Proofs.Ytcfknakmamcinaa.Rp Go.Proofs.Ytcfknakmamcinaa.Wr
set_option linter.unusedVariables false
set_option linter.unusedSimpArgs false
abbrev few (r : S25) : Prop := r.f7.size ≤ 300 ∧ r.f8.size ≤ 300 ∧ r.f9.length ≤ 50 ∧ r.f10.length ≤ 50
theorem few_f (r : S25) : careenref04_Few.f r.f0 r.f1 r.f2 r.f3 r.f4 r.f5 r.f6 r.f7 r.f8 r.f9 r.f10 = some (decide (few r)) := by
  unfold careenref04_Few.f
  by_cases h1 : r.f7.size ≤ 300
  · rw [if_pos (by omega)]
    by_cases h2 : r.f8.size ≤ 300
    · rw [if_pos (by omega)]
      by_cases h3 : r.f9.length ≤ 50
      · rw [if_pos (by omega)]
        congr 1
        rw [decide_eq_decide]
        omega
      · rw [if_neg (by omega)]; congr 1; symm; rw [decide_eq_false_iff_not]; omega
    · rw [if_neg (by omega)]; congr 1; symm; rw [decide_eq_false_iff_not]; omega
  · rw [if_neg (by omega)]; congr 1; symm; rw [decide_eq_false_iff_not]; omega
theorem print_f {r : S25} (h : r.f8.size ≤ 1000000) : record_Print.f r.f0 r.f1 r.f2 r.f3 r.f4 r.f5 r.f6 r.f7 r.f8 r.f9 r.f10 = some (printF r) := by
  unfold record_Print.f
  rw [if_pos h]
theorem rsame_f {a b : S25} (h : a.f9.length ≤ 1000000) (h2 : a.f10.length ≤ 1000000) : careenref04_Same.f a.f0 a.f1 a.f2 a.f3 a.f4 a.f5 a.f6 a.f7 a.f8 a.f9 a.f10 b.f0 b.f1 b.f2 b.f3 b.f4 b.f5 b.f6 b.f7 b.f8 b.f9 b.f10 = some (decide (a = b)) := by
  unfold careenref04_Same.f
  rw [if_pos ⟨h, h2⟩]
theorem read_f {s : ByteArray} {p : Int} (h : s.size ≤ 1000000) : record_Read.f s p = some ((readF s p).1.f0, (readF s p).1.f1, (readF s p).1.f2, (readF s p).1.f3, (readF s p).1.f4, (readF s p).1.f5, (readF s p).1.f6, (readF s p).1.f7, (readF s p).1.f8, (readF s p).1.f9, (readF s p).1.f10, (readF s p).2.1, (readF s p).2.2) := by
  unfold record_Read.f
  rw [if_pos h]
theorem awake_eq : careenlaw04_awake.f = some true := by
  unfold careenlaw04_awake.f
  simp only [record_Print.f, record_Read.f]
  rw [if_pos (by decide +kernel), if_pos (by decide +kernel), if_pos (by decide +kernel)]
  simp only [Option.bind_some, toList_bl]
  decide +kernel
end Go.Proofs.Ytcfknakmamcinaa.Pt
