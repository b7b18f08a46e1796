import Derived.Test.YtcfknakmamcinaaQAZ0
import Derived.Test.YtcfknakmamcinaaQAZ1
import Derived.Test.YtcfknakmamcinaaQAZ2
import Derived.Test.YtcfknakmamcinaaQAZ3
import Derived.Test.YtcfknakmamcinaaQAZ4
import Derived.Test.YtcfknakmamcinaaQAZ5
import Derived.Test.YtcfknakmamcinaaQAZ6
import Derived.Test.YtcfknakmamcinaaQAZ7
import Derived.Test.YtcfknakmamcinaaQAZ8
import Derived.Test.YtcfknakmamcinaaQAZ9
import Derived.Test.YtcfknakmamcinaaQAZ10
import Derived.Test.YtcfknakmamcinaaQAZ11
import Derived.Test.YtcfknakmamcinaaQAZ12
import Derived.Test.YtcfknakmamcinaaQAZ13
import Derived.Test.YtcfknakmamcinaaQAZ14
import Derived.Test.YtcfknakmamcinaaQAZ15
import Derived.Test.YtcfknakmamcinaaQAZ16
import Derived.Test.YtcfknakmamcinaaQAZ17
import Derived.Test.YtcfknakmamcinaaQAZ18
import Derived.Test.YtcfknakmamcinaaQAZ19
namespace Go.Proofs.Ytcfknakmamcinaa.Pt
open Go Go.RowKit Go.Proofs.YtcfknakmamcinaaW.PrintWords Go.Proofs.Ytcfknakmamcinaa.X4 Go.Proofs.Ytcfknakmamcinaa.Rp Go.Proofs.Ytcfknakmamcinaa.Wr
set_option linter.unusedVariables false
set_option linter.unusedSimpArgs false
def B (l : List UInt8) : ByteArray := ⟨l.toArray⟩
theorem B_size (l : List UInt8) : (B l).size = l.length := by simp [B, ByteArray.size]
theorem B_append (a b : List UInt8) : B a ++ B b = B (a ++ b) := by
  apply ByteArray.ext
  apply Array.toList_inj.1
  simp [B, ByteArray.data_append]
theorem B_data (s : ByteArray) : s = B s.data.toList := by cases s; simp [B]
theorem b8_mod (n m : Int) (h : n % 256 = m % 256) : UInt8.ofNat (n % 256).toNat = b8 m := by unfold b8; rw [h]
theorem small_f (n : Int) : careenref04_small.f n = some (B [b8 n]) := rfl
theorem four_f (n : Int) : careenref04_four.f n = some (B (four n)) := by
  unfold careenref04_four.f careenref01_Four.f four strOfNums B
  simp only [Option.bind_some, List.map_cons, List.map_nil]
  rw [b8_mod (n % 4294967296 / 16777216) (n / 16777216) (by omega), b8_mod (n % 4294967296 / 65536) (n / 65536) (by omega), b8_mod (n % 4294967296 / 256) (n / 256) (by omega), b8_mod (n % 4294967296) n (by omega)]
theorem fits {α : Type} {n : Nat} {x y : Option α} (h : n ≤ 1000000) : (if n ≤ 9223372036854775807 then x else y) = x := if_pos (by omega)
theorem drop_T {l : List S66} {j : Nat} (h : j < l.length) : l.drop j = rd_T66 l (j : Int) :: l.drop (j + 1) := by
  rw [List.drop_eq_getElem_cons h]
  unfold rd_T66
  rw [Int.toNat_natCast, List.getD_eq_getElem?_getD, List.getElem?_eq_getElem h]
  rfl
theorem drop_Q {l : List S68} {j : Nat} (h : j < l.length) : l.drop j = rd_T68 l (j : Int) :: l.drop (j + 1) := by
  rw [List.drop_eq_getElem_cons h]
  unfold rd_T68
  rw [Int.toNat_natCast, List.getD_eq_getElem?_getD, List.getElem?_eq_getElem h]
  rfl
theorem rowT_bytes {x : S66} {b : List UInt8} (h : rowT x = some b) : b = four x.f0 ++ (four x.f1 ++ four x.f2) := by
  unfold rowT at h
  obtain ⟨a, c, ha, hc, rfl⟩ := cat_eq h
  obtain ⟨-, -, rfl⟩ := txn_eq2 ha
  obtain ⟨-, -, rfl⟩ := num_eq3 hc
  rfl
theorem rowQ_bytes {x : S68} {b : List UInt8} (h : rowQ x = some b) : b = [b8 x.f0] ++ four x.f1 := by
  unfold rowQ at h
  obtain ⟨a, c, ha, hc, rfl⟩ := cat_eq h
  obtain ⟨-, -, rfl⟩ := small_eq2 ha
  obtain ⟨-, rfl⟩ := num_eq2 hc
  rfl
theorem wrap_succ {j : Nat} (h : j ≤ 1000000) : wrap64 ((j : Int) + 1) = ((j + 1 : Nat) : Int) := by unfold wrap64; omega
theorem pr_l1 (a0 a1 a2 a3 a4 a5 a6 : Int) (a7 a8 : ByteArray) (lt : List S66) (l : List S68) (hl : l.length ≤ 8) : ∀ (m k j : Nat) (acc b : List UInt8), j + m = l.length → m < k → acc.length + 5 * m ≤ 100000 → joinP ((l.drop j).map rowQ) = some b → careenref04_Print.l1 k (B acc) (j : Int) a0 a1 a2 a3 a4 a5 a6 a7 a8 lt l = some (B (acc ++ b)) := by
  intro m
  induction m with
  | zero =>
    intro k j acc b hj hk ha hb
    obtain ⟨k, rfl⟩ : ∃ q, k = q + 1 := ⟨k - 1, by omega⟩
    rw [List.drop_of_length_le (by omega)] at hb
    injection hb with hb
    subst hb
    unfold careenref04_Print.l1
    rw [if_neg (by omega), List.append_nil]
  | succ m ih =>
    intro k j acc b hj hk ha hb
    obtain ⟨k, rfl⟩ : ∃ q, k = q + 1 := ⟨k - 1, by omega⟩
    rw [drop_Q (by omega), List.map_cons, joinP] at hb
    obtain ⟨x, y, hx, hy, rfl⟩ := cat_eq hb
    have ex := rowQ_bytes hx
    unfold careenref04_Print.l1
    rw [if_pos (by omega), if_pos (by omega)]
    simp only [small_f, four_f, Option.bind_some, B_append, B_size]
    rw [fits (by simp [four_len]), fits (by simp [four_len]; omega), wrap_succ (by omega), ← ex]
    rw [ih k (j + 1) (acc ++ x) y (by omega) (by omega) (by rw [ex]; simp [four_len]; omega) hy, List.append_assoc]
theorem pr_l0 (a0 a1 a2 a3 a4 a5 a6 : Int) (a7 a8 : ByteArray) (lt : List S66) (l : List S68) (hlt : lt.length ≤ 4) (hl : l.length ≤ 8) (bq : List UInt8) (hq : joinP (l.map rowQ) = some bq) : ∀ (m k j : Nat) (acc b : List UInt8), j + m = lt.length → m + 20 < k → acc.length + 12 * m ≤ 10000 → joinP ((lt.drop j).map rowT) = some b → careenref04_Print.l0 k (B acc) (j : Int) a0 a1 a2 a3 a4 a5 a6 a7 a8 lt l = some (B (acc ++ (b ++ ([b8 (l.length : Int)] ++ bq)))) := by
  intro m
  induction m with
  | zero =>
    intro k j acc b hj hk ha hb
    obtain ⟨k, rfl⟩ : ∃ q, k = q + 1 := ⟨k - 1, by omega⟩
    rw [List.drop_of_length_le (by omega)] at hb
    injection hb with hb
    subst hb
    unfold careenref04_Print.l0
    rw [if_neg (by omega)]
    simp only [small_f, Option.bind_some, B_append, B_size]
    rw [fits (by simp; omega)]
    rw [show (0 : Int) = ((0 : Nat) : Int) from rfl, pr_l1 a0 a1 a2 a3 a4 a5 a6 a7 a8 lt l hl l.length k 0 _ bq (by omega) (by omega) (by simp; omega) hq]
    simp
  | succ m ih =>
    intro k j acc b hj hk ha hb
    obtain ⟨k, rfl⟩ : ∃ q, k = q + 1 := ⟨k - 1, by omega⟩
    rw [drop_T (by omega), List.map_cons, joinP] at hb
    obtain ⟨x, y, hx, hy, rfl⟩ := cat_eq hb
    have ex := rowT_bytes hx
    rw [← List.append_assoc] at ex
    unfold careenref04_Print.l0
    rw [if_pos (by omega), if_pos (by omega)]
    simp only [small_f, four_f, Option.bind_some, B_append, B_size]
    rw [fits (by simp [four_len]), fits (by simp [four_len]), fits (by simp [four_len]; omega), wrap_succ (by omega), ← ex]
    rw [ih k (j + 1) (acc ++ x) y (by omega) (by omega) (by rw [ex]; simp [four_len]; omega) hy]
    simp only [List.append_assoc]
/-- The document's print is the program's. -/
theorem rprint_eq {r : S25} {bs : List UInt8} (h : recP r = some bs) (k : Nat) (hk : 40 ≤ k) : careenref04_Print.f k r.f0 r.f1 r.f2 r.f3 r.f4 r.f5 r.f6 r.f7 r.f8 r.f9 r.f10 = some (B bs) := by
  obtain ⟨k0, k6, b, hb, rfl⟩ := rec_cut h
  obtain ⟨k, rfl⟩ : ∃ q, k = q + 1 := ⟨k - 1, by omega⟩
  unfold careenref04_Print.f
  simp only [small_f, Option.bind_some, B_append, B_size]
  rw [fits (by simp), fits (by simp)]
  by_cases e1 : r.f0 = 1
  · obtain ⟨⟨c1, c2⟩, c3, ⟨c4, c5⟩, ⟨c6, c7⟩, ⟨c8, c9⟩, c10, rfl⟩ := body1 e1 hb
    rw [if_pos e1]
    have e7 := B_data r.f7
    have e8 := B_data r.f8
    have s7 : r.f7.data.toList.length = r.f8.size := by rw [len_eq, c10]
    have s8 : r.f8.data.toList.length = r.f8.size := len_eq _
    generalize r.f7.data.toList = d7 at *
    generalize hd8 : r.f8.data.toList = d8 at *
    rw [e7]
    generalize hn : r.f8.size = n at *
    rw [e8]
    simp only [small_f, four_f, Option.bind_some, B_append, B_size]
    rw [fits (by simp [four_len]), fits (by simp [four_len]), fits (by simp [four_len]), fits (by simp [four_len, s7]; omega), fits (by simp [four_len, s7, s8]; omega)]
    simp
  rw [if_neg e1]
  by_cases e2 : r.f0 = 2
  · obtain ⟨⟨c1, c2⟩, c3, c3b, ⟨c4, c5⟩, ⟨c6, c7⟩, ⟨c8, c9⟩, rfl⟩ := body2 e2 hb
    rw [if_pos e2]
    have e8 := B_data r.f8
    have s8 : r.f8.data.toList.length = r.f8.size := len_eq _
    generalize hd8 : r.f8.data.toList = d8 at *
    generalize hn : r.f8.size = n at *
    rw [e8]
    simp only [small_f, four_f, Option.bind_some, B_append, B_size]
    rw [fits (by simp [four_len]), fits (by simp [four_len]), fits (by simp [four_len]), fits (by simp [four_len]), fits (by simp [four_len, s8]; omega)]
    simp
  rw [if_neg e2]
  by_cases e3 : r.f0 = 3 ∨ r.f0 = 4
  · obtain ⟨⟨c1, c2⟩, c3, rfl⟩ := body3 e3 hb
    have go : careenref04_Print.j0 (k + 1) (B [b8 r.f0]) r.f0 true r.f0 r.f1 r.f2 r.f3 r.f4 r.f5 r.f6 r.f7 r.f8 r.f9 r.f10 = some (B (b8 r.f0 :: (four r.f1 ++ four r.f4))) := by
      rw [careenref04_Print.j0, if_pos rfl]
      simp only [four_f, Option.bind_some, B_append, B_size]
      rw [fits (by simp [four_len]), fits (by simp [four_len])]
      simp
    rcases e3 with e3 | e3
    · rw [show (r.f0 == 3) = true by simp [e3], if_pos e3]; exact go
    · rw [if_neg (by omega), show (r.f0 == 4) = true by simp [e3]]; exact go
  rw [if_neg (by omega), show (r.f0 == 4) = false by simp; omega]
  rw [careenref04_Print.j0, if_neg (by simp)]
  by_cases e6 : r.f0 = 6
  · obtain ⟨c1, c2, c3, bt, bq, c4, c5, rfl⟩ := body6 e6 hb
    rw [if_pos e6]
    simp only [small_f, four_f, Option.bind_some, B_append, B_size]
    rw [fits (by simp [four_len]), fits (by simp [four_len])]
    rw [show (0 : Int) = ((0 : Nat) : Int) from rfl, pr_l0 r.f0 r.f1 r.f2 r.f3 r.f4 r.f5 r.f6 r.f7 r.f8 r.f9 r.f10 c2 c3 bq c5 r.f9.length k 0 _ bt (by omega) (by omega) (by simp [four_len]; omega) c4]
    simp
  · rw [if_neg e6]
    have hb5 : b = [] := by
      unfold bodyP at hb
      rw [if_neg e1, if_neg e2, if_neg e3] at hb
      split at hb
      · injection hb with hb; exact hb.symm
      · cases hb
    subst hb5
    rfl
/-- How long a record's bytes are. -/
theorem rec_len {r : S25} {bs : List UInt8} (h : recP r = some bs) : bs.length = (if r.f0 = 1 then 12 + 2 * r.f8.size else if r.f0 = 2 then 16 + r.f8.size else if r.f0 = 3 ∨ r.f0 = 4 then 9 else if r.f0 = 5 then 1 else 7 + 12 * r.f9.length + 5 * r.f10.length) ∧ bs.length ≤ 112 ∧ 1 ≤ bs.length := by
  obtain ⟨k0, k6, b, hb, rfl⟩ := rec_cut h
  by_cases e1 : r.f0 = 1
  · obtain ⟨⟨c1, c2⟩, c3, ⟨c4, c5⟩, ⟨c6, c7⟩, ⟨c8, c9⟩, c10, rfl⟩ := body1 e1 hb
    rw [if_pos e1]
    simp [four_len, len_eq, c10]
    omega
  rw [if_neg e1]
  by_cases e2 : r.f0 = 2
  · obtain ⟨⟨c1, c2⟩, c3, c3b, ⟨c4, c5⟩, ⟨c6, c7⟩, ⟨c8, c9⟩, rfl⟩ := body2 e2 hb
    rw [if_pos e2]
    simp [four_len, len_eq]
    omega
  rw [if_neg e2]
  by_cases e3 : r.f0 = 3 ∨ r.f0 = 4
  · obtain ⟨⟨c1, c2⟩, c3, rfl⟩ := body3 e3 hb
    rw [if_pos e3]
    simp [four_len]
  rw [if_neg e3]
  by_cases e6 : r.f0 = 6
  · obtain ⟨c1, c2, c3, bt, bq, c4, c5, rfl⟩ := body6 e6 hb
    have lt : bt.length = 12 * r.f9.length := by
      have key : ∀ (l : List S66) (b : List UInt8), joinP (l.map rowT) = some b → b.length = 12 * l.length := fun l => by
        induction l with
        | nil => intro b h; injection h with h; subst h; rfl
        | cons x t ih =>
          intro b h
          rw [List.map_cons, joinP] at h
          obtain ⟨u, v, hu, hv, rfl⟩ := cat_eq h
          rw [List.length_append, ih v hv, rowT_bytes hu]
          simp [four_len]
          omega
      exact key _ _ c4
    have lq : bq.length = 5 * r.f10.length := by
      have key : ∀ (l : List S68) (b : List UInt8), joinP (l.map rowQ) = some b → b.length = 5 * l.length := fun l => by
        induction l with
        | nil => intro b h; injection h with h; subst h; rfl
        | cons x t ih =>
          intro b h
          rw [List.map_cons, joinP] at h
          obtain ⟨u, v, hu, hv, rfl⟩ := cat_eq h
          rw [List.length_append, ih v hv, rowQ_bytes hu]
          simp [four_len]
          omega
      exact key _ _ c5
    rw [if_neg (by omega)]
    simp [four_len, lt, lq]
    omega
  · have hb5 : b = [] ∧ r.f0 = 5 := by
      unfold bodyP at hb
      rw [if_neg e1, if_neg e2, if_neg e3] at hb
      split at hb
      · rename_i c; injection hb with hb; exact ⟨hb.symm, c⟩
      · simp [e6] at hb
    obtain ⟨rfl, e5⟩ := hb5
    rw [if_pos e5]
    simp
theorem print_some {r : S25} {bs : List UInt8} (h : recP r = some bs) (ho : ownR r = r) : printF r = (B bs, 0) := by
  unfold printF
  rw [h]
  simp only
  rw [if_pos ho]
  rfl
theorem print_may {r : S25} : (∃ bs, recP r = some bs ∧ ownR r = r ∧ printF r = (B bs, 0) ∧ mayB r = true) ∨ (printF r = (⟨#[]⟩, 1) ∧ mayB r = false) := by
  by_cases m : mayB r = true
  · obtain ⟨⟨bs, h⟩, ho⟩ := (may_iff r).1 m
    exact .inl ⟨bs, h, ho, print_some h ho, m⟩
  · refine .inr ⟨?_, by simpa using m⟩
    unfold printF
    cases h : recP r with
    | none => rfl
    | some bs =>
      simp only
      rw [if_neg fun ho => m ((may_iff r).2 ⟨⟨bs, h⟩, ho⟩)]
end Go.Proofs.Ytcfknakmamcinaa.Pt
