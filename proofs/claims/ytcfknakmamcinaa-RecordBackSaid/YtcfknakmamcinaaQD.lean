/- For every record, all bytes ahead of it and behind it, and every cut, the law RecordBack returns true: what is printed is read as it was, wherever it stands; cut off it is none. No condition. -/
import Derived.Test.YtcfknakmamcinaaQDZ0
import Derived.Test.YtcfknakmamcinaaQDZ1
import Derived.Test.YtcfknakmamcinaaQDZ2
import Derived.Test.YtcfknakmamcinaaQDZ3
import Derived.Test.YtcfknakmamcinaaQDZ4
import Derived.Test.YtcfknakmamcinaaQDZ5
import Derived.Test.YtcfknakmamcinaaQDZ6
import Derived.Test.YtcfknakmamcinaaQDZ7
import Derived.Test.YtcfknakmamcinaaQDZ8
import Derived.Test.YtcfknakmamcinaaQDZ9
import Derived.Test.YtcfknakmamcinaaQDZ10
import Derived.Test.YtcfknakmamcinaaQDZ11
import Derived.Test.YtcfknakmamcinaaQDZ12
import Derived.Test.YtcfknakmamcinaaQDZ13
import Derived.Test.YtcfknakmamcinaaQDZ14
import Derived.Test.YtcfknakmamcinaaQDZ15
import Derived.Test.YtcfknakmamcinaaQDZ16
import Derived.Test.YtcfknakmamcinaaQDZ17
import Derived.Test.YtcfknakmamcinaaQDZ18
import Derived.Test.YtcfknakmamcinaaQDZ19
import Derived.Test.YtcfknakmamcinaaQDZ20
namespace Go.Proofs.Ytcfknakmamcinaa.X4b
open Go Go.RowKit Go.Proofs.YtcfknakmamcinaaW.PrintWords Go.Proofs.Ytcfknakmamcinaa.X4 Go.Proofs.Ytcfknakmamcinaa.Rp Go.Proofs.Ytcfknakmamcinaa.Wr Go.Proofs.Ytcfknakmamcinaa.Pt
set_option linter.unusedVariables false
set_option linter.unusedSimpArgs false
theorem cutoff (x : Int) (n : Nat) (h1 : 1 ≤ n) (h2 : n ≤ 112) : ∃ c : Nat, wrap64 (Int.tmod (IntKind.u64.wrap x) (n : Int)) = (c : Int) ∧ c < n := by
  have h0 : 0 ≤ IntKind.u64.wrap x := by rw [IntKind.wrap_u64]; omega
  generalize IntKind.u64.wrap x = u at *
  rw [Int.tmod_eq_emod_of_nonneg h0]
  have a := Int.emod_nonneg u (b := (n : Int)) (by omega)
  have b := Int.emod_lt_of_pos u (b := (n : Int)) (by omega)
  generalize u % (n : Int) = v at *
  refine ⟨v.toNat, ?_, by omega⟩
  unfold wrap64
  omega
theorem stands (a b : ByteArray) (l : List UInt8) : At ((a ++ B l) ++ b) a.size l := by
  refine ⟨by rw [ByteArray.size_append, ByteArray.size_append, B_size]; omega, ?_⟩
  have e : ((a ++ B l) ++ b).data.toList = a.data.toList ++ (l ++ b.data.toList) := by
    simp only [ByteArray.data_append, Array.toList_append, B_list, List.append_assoc]
  rw [e, ← len_eq a, List.drop_left, List.take_left]
theorem u64_small (n : Nat) (h2 : n ≤ 112) : IntKind.u64.wrap (n : Int) = (n : Int) := by
  rw [IntKind.wrap_u64]
  exact Int.emod_eq_of_lt (by omega) (by omega)
theorem wrap_add (a b : Nat) (ha : a ≤ 200) (hb : b ≤ 112) : ((a + b : Nat) : Int) = wrap64 ((a : Int) + (b : Int)) := by unfold wrap64; omega
theorem RecordBack : RowRecordBack.Pure := by
  intro x0 x1 x2 x3 h0 h1 h2 h3
  refine ⟨1, ?_⟩
  have go : ∀ b : Bool, (b = false → few x0 ∧ x1.size ≤ 200 ∧ x2.size ≤ 200) → careenlaw04_RecordBack.j0 1 x1 x2 x3 b x0.f0 x0.f1 x0.f2 x0.f3 x0.f4 x0.f5 x0.f6 x0.f7 x0.f8 x0.f9 x0.f10 = some true := by
    intro b hbb
    simp only [careenlaw04_RecordBack.j0]
    cases b with
    | true => rw [if_pos rfl, awake_eq]; rfl
    | false =>
      obtain ⟨fw, s1, s2⟩ := hbb rfl
      clear hbb h0 h1 h2 h3
      rw [if_neg (by simp), print_f (by omega)]
      simp only [Option.bind_some]
      rcases print_may (r := x0) with ⟨bs, hb, ho, hp, hm⟩ | ⟨hp, hm⟩
      · rw [hp, if_pos rfl]
        simp only
        obtain ⟨-, l2, l3⟩ := rec_len hb
        obtain ⟨c, hc, hlt⟩ := cutoff x3 bs.length l3 l2
        rw [if_pos (by rw [B_size]; omega), if_pos (by rw [ByteArray.size_append, B_size]; omega), read_f (by rw [ByteArray.size_append, ByteArray.size_append, B_size]; omega)]
        simp only [Option.bind_some]
        have hr := read_of_at hb ho (stands x1 x2 bs)
        simp only [B_size, u64_small _ l2, hc]
        rw [if_neg (by omega), if_pos (by omega), if_pos (by omega), Int.toNat_natCast, read_f (by rw [ByteArray.size_extract, B_size]; omega)]
        have he := rec_cutoff hb ho c hlt
        generalize readF ((B bs).extract 0 c) 0 = E at *
        generalize readF ((x1 ++ B bs) ++ x2) (x1.size : Int) = R at *
        have e1 : R.2.2 = 0 := by rw [hr]
        have e2 : R.2.1 = ((x1.size + bs.length : Nat) : Int) := by rw [hr]
        have e3 : R.1 = x0 := by rw [hr]
        clear hr
        simp only [Option.bind_some]
        rw [if_pos e1, if_pos (e2.trans (wrap_add _ _ s1 l2)), e3, rsame_f (by omega) (by omega)]
        simp only [Option.bind_some]
        rw [if_pos (by simp), he]
        rfl
      · rw [hp, if_neg (by decide)]
  unfold careenlaw04_RecordBack.f
  rw [awake_eq, few_f]
  simp only [Option.bind_some, if_true]
  by_cases fw : few x0
  · rw [if_pos (by simpa using fw)]
    by_cases c1 : (x1.size : Int) > 200
    · rw [if_pos c1]
      exact go _ fun h => by cases h
    · rw [if_neg c1]
      exact go _ fun h => ⟨fw, by omega, by have := of_decide_eq_false h; omega⟩
  · rw [if_neg (by simpa using fw)]
    exact go _ fun h => by cases h
theorem recordBack_holds : Rows.RecordBackSaid := RowRecordBack.holds RecordBack
end Go.Proofs.Ytcfknakmamcinaa.X4b
