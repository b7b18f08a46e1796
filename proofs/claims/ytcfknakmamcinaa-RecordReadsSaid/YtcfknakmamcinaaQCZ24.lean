import Derived.Test.YtcfknakmamcinaaQCZ0
import Derived.Test.YtcfknakmamcinaaQCZ1
import Derived.Test.YtcfknakmamcinaaQCZ2
import Derived.Test.YtcfknakmamcinaaQCZ3
import Derived.Test.YtcfknakmamcinaaQCZ4
import Derived.Test.YtcfknakmamcinaaQCZ5
import Derived.Test.YtcfknakmamcinaaQCZ6
import Derived.Test.YtcfknakmamcinaaQCZ7
import Derived.Test.YtcfknakmamcinaaQCZ8
import Derived.Test.YtcfknakmamcinaaQCZ9
import Derived.Test.YtcfknakmamcinaaQCZ10
import Derived.Test.YtcfknakmamcinaaQCZ11
import Derived.Test.YtcfknakmamcinaaQCZ12
import Derived.Test.YtcfknakmamcinaaQCZ13
import Derived.Test.YtcfknakmamcinaaQCZ14
import Derived.Test.YtcfknakmamcinaaQCZ15
import Derived.Test.YtcfknakmamcinaaQCZ16
import Derived.Test.YtcfknakmamcinaaQCZ17
import Derived.Test.YtcfknakmamcinaaQCZ18
import Derived.Test.YtcfknakmamcinaaQCZ19
import Derived.Test.YtcfknakmamcinaaQCZ20
import Derived.Test.YtcfknakmamcinaaQCZ21
import Derived.Test.YtcfknakmamcinaaQCZ22
import Derived.Test.YtcfknakmamcinaaQCZ23
namespace Go.Proofs.Ytcfknakmamcinaa.Pt
open Go Go.RowKit Go.Proofs.YtcfknakmamcinaaW.PrintWords Go.Proofs.Ytcfknakmamcinaa.X4 Go.Proofs.Ytcfknakmamcinaa.Rp Go.Proofs.Ytcfknakmamcinaa.Wr
set_option linter.unusedVariables false
set_option linter.unusedSimpArgs false
instance decE : DecidableEq S49 := fun a b => if h : a.f0 = b.f0 ∧ a.f1 = b.f1 then isTrue (by cases a; cases b; simp_all) else isFalse (fun e => h (by subst e; simp))
/-- The records of a body, from a place on. -/
def allL (s : ByteArray) : Nat → Int → Option (List S49)
  | 0, _ => none
  | n + 1, p => if p < (s.size : Int) then (if (readF s p).2.2 = 0 then (allL s n (readF s p).2.1).map (⟨p, (readF s p).1⟩ :: ·) else none) else some []
def allF (s : ByteArray) : Option (List S49) := allL s (s.size + 1) 0
def okE (e : S49) : Prop := mayB e.f1 = true
theorem allL_ok {s : ByteArray} : ∀ (n : Nat) (p : Int) (l : List S49), allL s n p = some l → ∀ e ∈ l, okE e := by
  intro n
  induction n with
  | zero => intro p l h; cases h
  | succ n ih =>
    intro p l h
    unfold allL at h
    split at h
    · split at h
      · rename_i c e
        obtain ⟨t, ht, rfl⟩ := Option.map_eq_some_iff.1 h
        intro x hx
        rcases List.mem_cons.1 hx with rfl | hx
        · obtain ⟨bs, q, -, hb, ho, -⟩ := read_some e
          exact (may_iff _).2 ⟨⟨bs, hb⟩, ho⟩
        · exact ih _ _ ht x hx
      · cases h
    · injection h with h; subst h; intro x hx; cases hx
def outA (o : Option (List S49)) (acc : List S49) : List S49 × Int := match o with | some l => (acc ++ l, 0) | none => ([], 3)
def outB (o : Option (List S49)) (acc : List S49) : List S49 × Bool := match o with | some l => (acc ++ l, true) | none => ([], false)
theorem outA_cons (o : Option (List S49)) (acc : List S49) (x : S49) : outA (o.map (x :: ·)) acc = outA o (acc ++ [x]) := by cases o <;> simp [outA]
theorem outB_cons (o : Option (List S49)) (acc : List S49) (x : S49) : outB (o.map (x :: ·)) acc = outB o (acc ++ [x]) := by cases o <;> simp [outB]
theorem all_l0 (s : ByteArray) (hs : s.size ≤ 1000000) : ∀ (d n k : Nat) (p : Int) (acc : List S49), 0 ≤ p → (s.size : Int) - p ≤ d → d < n → d < k → (acc.length : Int) ≤ p → X4r.record_All.l0 k s acc p = some (outA (allL s n p) acc) := by
  intro d
  induction d with
  | zero =>
    intro n k p acc hp hd hn hk ha
    obtain ⟨n, rfl⟩ : ∃ q, n = q + 1 := ⟨n - 1, by omega⟩
    obtain ⟨k, rfl⟩ : ∃ q, k = q + 1 := ⟨k - 1, by omega⟩
    unfold X4r.record_All.l0 allL
    rw [if_neg (by omega), if_neg (by omega)]
    simp [outA]
  | succ d ih =>
    intro n k p acc hp hd hn hk ha
    obtain ⟨n, rfl⟩ : ∃ q, n = q + 1 := ⟨n - 1, by omega⟩
    obtain ⟨k, rfl⟩ : ∃ q, k = q + 1 := ⟨k - 1, by omega⟩
    unfold X4r.record_All.l0 allL
    by_cases c : p < (s.size : Int)
    · rw [if_pos c, if_pos c, read_f hs]
      simp only [Option.bind_some]
      by_cases e : (readF s p).2.2 = 0
      · rw [if_pos e, if_pos e, if_pos (by omega)]
        obtain ⟨bs, q, p0, -, -, -, -, hn2, hs2, hl⟩ := read_some e
        rw [ih n k _ _ (by omega) (by omega) (by omega) (by omega) (by simp; omega), outA_cons]
      · rw [if_neg e, if_neg e]; rfl
    · rw [if_neg c, if_neg c]; simp [outA]
theorem rall_l0 (s : ByteArray) (hs : s.size ≤ 1000000) : ∀ (d n k : Nat) (p : Int) (acc : List S49), 0 ≤ p → (s.size : Int) - p ≤ d → d < n → d < k → (acc.length : Int) ≤ p → X4r.careenref04_All.l0 k s acc p = some (outB (allL s n p) acc) := by
  intro d
  induction d with
  | zero =>
    intro n k p acc hp hd hn hk ha
    obtain ⟨n, rfl⟩ : ∃ q, n = q + 1 := ⟨n - 1, by omega⟩
    obtain ⟨k, rfl⟩ : ∃ q, k = q + 1 := ⟨k - 1, by omega⟩
    unfold X4r.careenref04_All.l0 allL
    rw [if_neg (by omega), if_neg (by omega)]
    simp [outB]
  | succ d ih =>
    intro n k p acc hp hd hn hk ha
    obtain ⟨n, rfl⟩ : ∃ q, n = q + 1 := ⟨n - 1, by omega⟩
    obtain ⟨k, rfl⟩ : ∃ q, k = q + 1 := ⟨k - 1, by omega⟩
    unfold X4r.careenref04_All.l0 allL
    by_cases c : p < (s.size : Int)
    · rw [if_pos c, if_pos c, rread_f hs]
      simp only [Option.bind_some]
      by_cases e : (readF s p).2.2 = 0
      · rw [if_pos e, if_pos e, if_pos (by omega)]
        obtain ⟨bs, q, p0, -, -, -, -, hn2, hs2, hl⟩ := read_some e
        rw [ih n k _ _ (by omega) (by omega) (by omega) (by omega) (by simp; omega), outB_cons]
      · rw [if_neg e, if_neg e]; rfl
    · rw [if_neg c, if_neg c]; simp [outB]
theorem all_f (s : ByteArray) (hs : s.size ≤ 1000000) (k : Nat) (hk : s.size < k) : X4r.record_All.f k s = some (outA (allF s) []) := by
  unfold X4r.record_All.f allF
  exact all_l0 s hs s.size _ k 0 [] (by omega) (by omega) (by omega) hk (by simp)
theorem rall_f (s : ByteArray) (hs : s.size ≤ 1000000) (k : Nat) (hk : s.size < k) : X4r.careenref04_All.f k s = some (outB (allF s) []) := by
  unfold X4r.careenref04_All.f allF
  exact rall_l0 s hs s.size _ k 0 [] (by omega) (by omega) (by omega) hk (by simp)
theorem drop_E {l : List S49} {j : Nat} (h : j < l.length) : l.drop j = rd_T49 l (j : Int) :: l.drop (j + 1) := by
  rw [List.drop_eq_getElem_cons h]
  unfold rd_T49
  rw [Int.toNat_natCast, List.getD_eq_getElem?_getD, List.getElem?_eq_getElem h]
  rfl
theorem sameall_l0 (a b : List S49) (hok : ∀ e ∈ a, okE e) (hl : a.length = b.length) (hm : a.length ≤ 1000000) : ∀ (m k j : Nat), j + m = a.length → m < k → X4r.careenref04_SameAll.l0 k a b (j : Int) = some (decide (a.drop j = b.drop j)) := by
  intro m
  induction m with
  | zero =>
    intro k j hj hk
    obtain ⟨k, rfl⟩ : ∃ q, k = q + 1 := ⟨k - 1, by omega⟩
    unfold X4r.careenref04_SameAll.l0
    rw [if_neg (by omega), List.drop_of_length_le (by omega), List.drop_of_length_le (by omega)]
    simp
  | succ m ih =>
    intro k j hj hk
    obtain ⟨k, rfl⟩ : ∃ q, k = q + 1 := ⟨k - 1, by omega⟩
    unfold X4r.careenref04_SameAll.l0
    rw [if_pos (by omega), if_pos (by omega), if_pos (by omega)]
    have da := drop_E (l := a) (j := j) (by omega)
    have db := drop_E (l := b) (j := j) (by omega)
    have hx : okE (rd_T49 a (j : Int)) := hok _ (List.mem_of_mem_drop (da ▸ List.mem_cons_self))
    rw [da, db]
    generalize rd_T49 a (j : Int) = x at *
    generalize rd_T49 b (j : Int) = y at *
    obtain ⟨r1, r2, -⟩ := rows_le hx
    by_cases c : x.f0 = y.f0
    · rw [if_pos c, rsame_f (by omega) (by omega)]
      simp only [Option.bind_some]
      by_cases c2 : x.f1 = y.f1
      · rw [if_pos (by simpa using c2), wrap_succ (by omega), ih k (j + 1) (by omega) (by omega)]
        have e : x = y := by cases x; cases y; simp_all
        rw [e]
        congr 1
        rw [decide_eq_decide]
        simp
      · rw [if_neg (by simpa using c2)]
        congr 1
        symm
        rw [decide_eq_false_iff_not]
        intro e
        injection e with e
        exact c2 (by rw [e])
    · rw [if_neg c]
      congr 1
      symm
      rw [decide_eq_false_iff_not]
      intro e
      injection e with e
      exact c (by rw [e])
theorem sameall_f (a b : List S49) (hok : ∀ e ∈ a, okE e) (hm : a.length ≤ 1000000) (k : Nat) (hk : a.length < k) : X4r.careenref04_SameAll.f k a b = some (decide (a = b)) := by
  unfold X4r.careenref04_SameAll.f
  by_cases hl : a.length = b.length
  · rw [if_pos (by omega), show (0 : Int) = ((0 : Nat) : Int) from rfl, sameall_l0 a b hok hl hm a.length k 0 (by omega) hk]
    rfl
  · rw [if_neg (by omega)]
    congr 1
    symm
    rw [decide_eq_false_iff_not]
    rintro rfl
    exact hl rfl
theorem allL_len {s : ByteArray} : ∀ (n : Nat) (p : Int) (l : List S49), allL s n p = some l → l.length ≤ n := by
  intro n
  induction n with
  | zero => intro p l h; cases h
  | succ n ih =>
    intro p l h
    unfold allL at h
    split at h
    · split at h
      · obtain ⟨t, ht, rfl⟩ := Option.map_eq_some_iff.1 h
        have := ih _ _ ht
        simp
        omega
      · cases h
    · injection h with h; subst h; simp
end Go.Proofs.Ytcfknakmamcinaa.Pt
