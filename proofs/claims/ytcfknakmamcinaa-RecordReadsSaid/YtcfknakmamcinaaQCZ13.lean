import Derived.Test.YtcfknakmamcinaaQCZ0
import Derived.Test.YtcfknakmamcinaaQCZ1
import Derived.Test.YtcfknakmamcinaaQCZ2
import Derived.Test.YtcfknakmamcinaaQCZ3
import Derived.Test.YtcfknakmamcinaaQCZ4
import Derived.Test.YtcfknakmamcinaaQCZ5
import Derived.Test.YtcfknakmamcinaaQCZ6
import Derived.Test.YtcfknakmamcinaaQCZ7
import Derived.Test.YtcfknakmamcinaaQCZ8
import Derived.Test.YtcfknakmamcinaaQCZ9
import Derived.Test.YtcfknakmamcinaaQCZ10
import Derived.Test.YtcfknakmamcinaaQCZ11
import Derived.Test.YtcfknakmamcinaaQCZ12
namespace Go.Proofs.Ytcfknakmamcinaa.Rp
open Go Go.RowKit Go.Proofs.YtcfknakmamcinaaW.PrintWords Go.Proofs.Ytcfknakmamcinaa.X4
set_option linter.unusedSimpArgs false
set_option linter.unusedVariables false
abbrev St := ByteArray × Bool
def takeI (x : St) (n : Nat) : ByteArray × St := if x.2 = true ∨ x.1.size < n then (strOfNums (List.replicate n 0), x.1, true) else (x.1.extract 0 n, x.1.extract n x.1.size, false)
def smallI (x : St) : Int × St := (bt (takeI x 1).1 0, (takeI x 1).2)
def numv (b : ByteArray) : Int := ((bt b 0 * 256 + bt b 1) * 256 + bt b 2) * 256 + bt b 3
def fourI (x : St) : Int × St := (numv (takeI x 4).1, (takeI x 4).2)
theorem sn_size (n : Nat) : (strOfNums (List.replicate n 0)).size = n := by simp [strOfNums, ByteArray.size]
theorem take_eq (x : St) (n : Nat) (i : Int) (hi : i = (n : Int)) (hn : n ≤ 281474976710656) : careenref04_in_take.f x.1 x.2 i = some (takeI x n) := by
  subst hi
  obtain ⟨s, b⟩ := x
  unfold careenref04_in_take.f takeI
  have h0 : (0 : Int) ≤ (n : Int) := by omega
  have ht : ((n : Int)).toNat = n := by omega
  cases b with
  | true => simp [h0, ht, hn]
  | false =>
    by_cases h : (n : Int) > (s.size : Int)
    · have h2 : s.size < n := by omega
      simp [h0, ht, hn, h2]
    · have h2 : ¬ s.size < n := by omega
      have h3 : (n : Int) ≤ (s.size : Int) := by omega
      simp [h0, ht, h2, h3]
theorem takeI_size (x : St) (n : Nat) : (takeI x n).1.size = n := by
  unfold takeI
  split
  · exact sn_size n
  · rename_i h
    rw [not_or] at h
    rw [ByteArray.size_extract]
    omega
theorem small_eq (x : St) : careenref04_in_small.f x.1 x.2 = some (smallI x) := by
  unfold careenref04_in_small.f
  rw [take_eq x 1 1 rfl (by omega), Option.bind_some, if_pos (by rw [takeI_size]; omega)]
  have := bt_range (takeI x 1).1 0
  rw [show wrap64 (bt (takeI x 1).1 0) = bt (takeI x 1).1 0 by unfold wrap64; omega]
  rfl
theorem number_eq (b : ByteArray) (h : b.size = 4) : careenref01_Number.f b = some (numv b) := by
  unfold careenref01_Number.f
  have h0 := bt_range b 0; have h1 := bt_range b 1; have h2 := bt_range b 2; have h3 := bt_range b 3
  rw [if_pos (by omega), if_pos (by omega), if_pos (by omega), if_pos (by omega)]
  congr 1
  unfold numv
  omega
theorem four_eq (x : St) : careenref04_in_four.f x.1 x.2 = some (fourI x) := by
  unfold careenref04_in_four.f
  rw [take_eq x 4 4 rfl (by omega), Option.bind_some, number_eq _ (takeI_size x 4), Option.bind_some]
  have h0 := bt_range (takeI x 4).1 0; have h1 := bt_range (takeI x 4).1 1; have h2 := bt_range (takeI x 4).1 2; have h3 := bt_range (takeI x 4).1 3
  rw [show wrap64 (numv (takeI x 4).1) = numv (takeI x 4).1 by unfold numv wrap64; omega]
  rfl
theorem smallI_range (x : St) : 0 ≤ (smallI x).1 ∧ (smallI x).1 ≤ 255 := bt_range _ _
theorem takeI_le (x : St) (n : Nat) : (takeI x n).2.1.size ≤ x.1.size := by
  unfold takeI
  split
  · exact Nat.le_refl _
  · rw [ByteArray.size_extract]
    omega
theorem fourI_le (x : St) : (fourI x).2.1.size ≤ x.1.size := takeI_le x 4
theorem smallI_le (x : St) : (smallI x).2.1.size ≤ x.1.size := takeI_le x 1
def rowTI (x : St) : S66 × St := (⟨(fourI x).1, (fourI (fourI x).2).1, (fourI (fourI (fourI x).2).2).1⟩, (fourI (fourI (fourI x).2).2).2)
def rowQI (x : St) : S68 × St := (⟨(smallI x).1, (fourI (smallI x).2).1⟩, (fourI (smallI x).2).2)
def rowsTI : Nat → St → List S66 × St
  | 0, x => ([], x)
  | n + 1, x => if (rowsTI n x).2.2 = true then rowsTI n x else ((rowsTI n x).1 ++ [(rowTI (rowsTI n x).2).1], (rowTI (rowsTI n x).2).2)
def rowsQI : Nat → St → List S68 × St
  | 0, x => ([], x)
  | n + 1, x => if (rowsQI n x).2.2 = true then rowsQI n x else ((rowsQI n x).1 ++ [(rowQI (rowsQI n x).2).1], (rowQI (rowsQI n x).2).2)
theorem rowsTI_bad {n m : Nat} {x : St} (h : (rowsTI n x).2.2 = true) (hm : n ≤ m) : rowsTI m x = rowsTI n x := by
  induction m with
  | zero => rw [show n = 0 by omega]
  | succ m ih =>
    by_cases e : n = m + 1
    · rw [e]
    · have h2 := ih (by omega)
      simp only [rowsTI]
      rw [h2, if_pos h]
theorem rowsQI_bad {n m : Nat} {x : St} (h : (rowsQI n x).2.2 = true) (hm : n ≤ m) : rowsQI m x = rowsQI n x := by
  induction m with
  | zero => rw [show n = 0 by omega]
  | succ m ih =>
    by_cases e : n = m + 1
    · rw [e]
    · have h2 := ih (by omega)
      simp only [rowsQI]
      rw [h2, if_pos h]
theorem rowsTI_len (n : Nat) (x : St) : (rowsTI n x).1.length ≤ n := by
  induction n with
  | zero => exact Nat.le_refl _
  | succ n ih =>
    simp only [rowsTI]
    split
    · omega
    · rw [List.length_append]; show _ + 1 ≤ n + 1; omega
theorem rowsQI_len (n : Nat) (x : St) : (rowsQI n x).1.length ≤ n := by
  induction n with
  | zero => exact Nat.le_refl _
  | succ n ih =>
    simp only [rowsQI]
    split
    · omega
    · rw [List.length_append]; show _ + 1 ≤ n + 1; omega
def recI1 (x : St) : S25 × St :=
  let t := fourI x; let v := fourI t.2; let pg := smallI v.2; let o := smallI pg.2; let n := smallI o.2; let b := takeI n.2 n.1.toNat; let f := takeI b.2 n.1.toNat
  (⟨1, t.1, pg.1, o.1, v.1, 0, 0, b.1, f.1, [], []⟩, f.2)
def recI2 (x : St) : S25 × St :=
  let t := fourI x; let v := fourI t.2; let z := fourI v.2; let pg := smallI z.2; let o := smallI pg.2; let n := smallI o.2; let f := takeI n.2 n.1.toNat
  (⟨2, t.1, pg.1, o.1, v.1, z.1, 0, ⟨#[]⟩, f.1, [], []⟩, f.2)
def recI3 (k : Int) (x : St) : S25 × St :=
  let t := fourI x; let v := fourI t.2
  (⟨k, t.1, 0, 0, v.1, 0, 0, ⟨#[]⟩, ⟨#[]⟩, [], []⟩, v.2)
def recI6 (x : St) : S25 × St :=
  let b := fourI x; let n := smallI b.2; let t := rowsTI n.1.toNat n.2; let m := smallI t.2; let q := rowsQI m.1.toNat m.2
  (⟨6, 0, 0, 0, 0, 0, b.1, ⟨#[]⟩, ⟨#[]⟩, t.1, q.1⟩, q.2)
def recI (x : St) : S25 × St :=
  if (smallI x).1 = 1 then recI1 (smallI x).2 else if (smallI x).1 = 2 then recI2 (smallI x).2 else if (smallI x).1 = 3 ∨ (smallI x).1 = 4 then recI3 (smallI x).1 (smallI x).2
  else if (smallI x).1 = 6 then recI6 (smallI x).2 else (⟨(smallI x).1, 0, 0, 0, 0, 0, 0, ⟨#[]⟩, ⟨#[]⟩, [], []⟩, (smallI x).2)
def zR : S25 := ⟨0, 0, 0, 0, 0, 0, 0, ⟨#[]⟩, ⟨#[]⟩, [], []⟩
/-- What the reference's Read says. -/
def rreadF (s : ByteArray) (p : Int) : S25 × Int × Int :=
  if p < 0 ∨ (s.size : Int) < p then (zR, 0, 2)
  else if (recI (s.extract p.toNat s.size, false)).2.2 = true ∨ mayB (recI (s.extract p.toNat s.size, false)).1 = false then (zR, 0, 3)
  else ((recI (s.extract p.toNat s.size, false)).1, (s.size : Int) - ((recI (s.extract p.toNat s.size, false)).2.1.size : Int), 0)
end Go.Proofs.Ytcfknakmamcinaa.Rp
namespace Go.Proofs.Ytcfknakmamcinaa.Pt
open Go Go.RowKit Go.Proofs.YtcfknakmamcinaaW.PrintWords Go.Proofs.Ytcfknakmamcinaa.X4 Go.Proofs.Ytcfknakmamcinaa.Rp Go.Proofs.Ytcfknakmamcinaa.Wr
set_option linter.unusedVariables false
set_option linter.unusedSimpArgs false
theorem small_mk {n m : Int} (h0 : 0 ≤ n) (h1 : n ≤ m) : smallP n m = some [b8 n] := by unfold smallP; rw [if_pos ⟨h0, h1⟩]
theorem num_mk1 {n : Int} (h : isNum n = true) : numP [n] = some (four n) := by unfold numP; rw [if_pos (by simp [h])]; simp
theorem num_mk2 {n m : Int} (h : isNum n = true) (h2 : isNum m = true) : numP [n, m] = some (four n ++ four m) := by unfold numP; rw [if_pos (by simp [h, h2])]; simp
theorem txn_mk {n : Int} (h0 : 1 ≤ n) (h : isNum n = true) : txnP n = some (four n) := by unfold txnP; rw [if_pos h0, num_mk1 h]
theorem place_mk {p o n : Int} (h1 : 0 ≤ p ∧ p ≤ 7) (h2 : 0 ≤ o ∧ o ≤ 220 - min n 220) (h3 : 1 ≤ n ∧ n ≤ 16) : placeP p o n = some ([b8 p] ++ ([b8 o] ++ [b8 n])) := by
  unfold placeP
  rw [if_pos h3.1, small_mk h1.1 h1.2, small_mk h2.1 h2.2, small_mk (by omega) h3.2]
  rfl
theorem rowT_iff (x : S66) : rowTB x = (rowT x).isSome := by
  cases h : rowT x with
  | some bs =>
    unfold rowT at h
    obtain ⟨a, b, ha, hb, -⟩ := cat_eq h
    obtain ⟨h1, h2, -⟩ := txn_eq2 ha
    obtain ⟨h3, h4, -⟩ := num_eq3 hb
    simp [rowTB, h1, h2, h3, h4]
  | none =>
    cases hb : rowTB x with
    | false => rfl
    | true =>
      simp only [rowTB, List.all_cons, List.all_nil, Bool.and_true, Bool.and_eq_true, decide_eq_true_eq] at hb
      obtain ⟨h1, h2, h3, h4⟩ := hb
      unfold rowT at h
      rw [txn_mk h1 h2, num_mk2 h3 h4] at h
      cases h
theorem rowQ_iff (x : S68) : rowQB x = (rowQ x).isSome := by
  cases h : rowQ x with
  | some bs =>
    unfold rowQ at h
    obtain ⟨a, b, ha, hb, -⟩ := cat_eq h
    obtain ⟨h1, h2, -⟩ := small_eq2 ha
    obtain ⟨h3, -⟩ := num_eq2 hb
    simp [rowQB, h1, h2, h3]
  | none =>
    cases hb : rowQB x with
    | false => rfl
    | true =>
      simp only [rowQB, Bool.and_eq_true, decide_eq_true_eq] at hb
      obtain ⟨⟨h1, h2⟩, h3⟩ := hb
      unfold rowQ at h
      rw [small_mk h1 h2, num_mk1 h3] at h
      cases h
theorem join_iff {α : Type} (f : α → Option (List UInt8)) (b : α → Bool) (h : ∀ x, b x = (f x).isSome) (l : List α) : l.all b = (joinP (l.map f)).isSome := by
  induction l with
  | nil => rfl
  | cons x t ih =>
    simp only [List.all_cons, List.map_cons, joinP, ih, h x]
    cases f x <;> cases joinP (t.map f) <;> rfl
theorem some_of {α : Type} {o : Option α} (h : o.isSome = true) : ∃ x, o = some x := Option.isSome_iff_exists.1 h
/-- What may be is what is printed. -/
theorem may_iff (r : S25) : mayB r = true ↔ (∃ bs, recP r = some bs) ∧ ownR r = r := by
  unfold mayB
  by_cases e1 : r.f0 = 1
  · rw [if_pos e1]
    simp only [Bool.and_eq_true, decide_eq_true_eq, List.all_cons, List.all_nil, Bool.and_true, spotB]
    have ho : ownR r = ⟨1, r.f1, r.f2, r.f3, r.f4, 0, 0, r.f7, r.f8, [], []⟩ := by unfold ownR; rw [if_pos e1]
    rw [ho]
    constructor
    · rintro ⟨h1, ⟨h2, h3⟩, ⟨g1, g2, g3, g4, g5, g6, g7⟩, h4, h5⟩
      refine ⟨some_of ?_, h5.symm⟩
      unfold recP bodyP
      rw [small_mk (by omega) (by omega), if_pos e1, txn_mk h1 h2, num_mk1 h3, place_mk ⟨g1, g2⟩ ⟨g3, by omega⟩ ⟨by omega, by omega⟩, if_pos h4]
      rfl
    · rintro ⟨⟨bs, hb⟩, h5⟩
      obtain ⟨-, -, b, hb, -⟩ := rec_cut hb
      obtain ⟨⟨c1, c2⟩, c3, ⟨c4, c5⟩, ⟨c6, c7⟩, ⟨c8, c9⟩, c10, -⟩ := body1 e1 hb
      exact ⟨c1, ⟨c2, c3⟩, ⟨c4, c5, c6, by omega, by omega, by omega, by omega⟩, c10, h5.symm⟩
  rw [if_neg e1]
  by_cases e2 : r.f0 = 2
  · rw [if_pos e2]
    simp only [Bool.and_eq_true, decide_eq_true_eq, List.all_cons, List.all_nil, Bool.and_true, spotB]
    have ho : ownR r = ⟨2, r.f1, r.f2, r.f3, r.f4, r.f5, 0, ⟨#[]⟩, r.f8, [], []⟩ := by unfold ownR; rw [if_neg e1, if_pos e2]
    rw [ho]
    constructor
    · rintro ⟨h1, ⟨h2, h3, h3b⟩, ⟨g1, g2, g3, g4, g5, g6, g7⟩, h5⟩
      refine ⟨some_of ?_, h5.symm⟩
      unfold recP bodyP
      rw [small_mk (by omega) (by omega), if_neg e1, if_pos e2, txn_mk h1 h2, num_mk2 h3 h3b, place_mk ⟨g1, g2⟩ ⟨g3, by omega⟩ ⟨by omega, by omega⟩]
      rfl
    · rintro ⟨⟨bs, hb⟩, h5⟩
      obtain ⟨-, -, b, hb, -⟩ := rec_cut hb
      obtain ⟨⟨c1, c2⟩, c3, c3b, ⟨c4, c5⟩, ⟨c6, c7⟩, ⟨c8, c9⟩, -⟩ := body2 e2 hb
      exact ⟨c1, ⟨c2, c3, c3b⟩, ⟨c4, c5, c6, by omega, by omega, by omega, by omega⟩, h5.symm⟩
  rw [if_neg e2]
  by_cases e3 : r.f0 = 3 ∨ r.f0 = 4
  · rw [if_pos e3]
    simp only [Bool.and_eq_true, decide_eq_true_eq, List.all_cons, List.all_nil, Bool.and_true]
    have ho : ownR r = ⟨r.f0, r.f1, 0, 0, r.f4, 0, 0, ⟨#[]⟩, ⟨#[]⟩, [], []⟩ := by unfold ownR; rw [if_neg e1, if_neg e2, if_pos e3]
    rw [ho]
    constructor
    · rintro ⟨h1, ⟨h2, h3⟩, h5⟩
      refine ⟨some_of ?_, h5.symm⟩
      unfold recP bodyP
      rw [small_mk (by omega) (by omega), if_neg e1, if_neg e2, if_pos e3, txn_mk h1 h2, num_mk1 h3]
      rfl
    · rintro ⟨⟨bs, hb⟩, h5⟩
      obtain ⟨-, -, b, hb, -⟩ := rec_cut hb
      obtain ⟨⟨c1, c2⟩, c3, -⟩ := body3 e3 hb
      exact ⟨c1, ⟨c2, c3⟩, h5.symm⟩
  rw [if_neg e3]
  by_cases e5 : r.f0 = 5
  · rw [if_pos e5, decide_eq_true_eq]
    have ho : ownR r = ⟨5, 0, 0, 0, 0, 0, 0, ⟨#[]⟩, ⟨#[]⟩, [], []⟩ := by unfold ownR; rw [if_neg e1, if_neg e2, if_neg e3, if_neg (by omega), e5]
    rw [ho]
    constructor
    · intro h5
      refine ⟨some_of ?_, h5.symm⟩
      unfold recP bodyP
      rw [small_mk (by omega) (by omega), if_neg e1, if_neg e2, if_neg e3, if_pos e5]
      rfl
    · rintro ⟨-, h5⟩
      exact h5.symm
  rw [if_neg e5]
  by_cases e6 : r.f0 = 6
  · rw [if_pos e6]
    simp only [Bool.and_eq_true, decide_eq_true_eq, List.all_cons, List.all_nil, Bool.and_true]
    have ho : ownR r = ⟨6, 0, 0, 0, 0, 0, r.f6, ⟨#[]⟩, ⟨#[]⟩, r.f9, r.f10⟩ := by unfold ownR; rw [if_neg e1, if_neg e2, if_neg e3, if_pos e6]
    rw [ho, join_iff rowT rowTB rowT_iff, join_iff rowQ rowQB rowQ_iff]
    constructor
    · rintro ⟨h1, h2, h3, h4, h5, h6⟩
      obtain ⟨bt, h5⟩ := some_of h5
      obtain ⟨bq, h6⟩ := some_of h6
      refine ⟨some_of ?_, h4.symm⟩
      unfold recP bodyP tablesP
      rw [small_mk (by omega) (by omega), if_neg e1, if_neg e2, if_neg e3, if_neg e5, if_pos e6, num_mk1 h1, small_mk (by omega) (by omega), h5, small_mk (by omega) (by omega), h6]
      rfl
    · rintro ⟨⟨bs, hb⟩, h5⟩
      obtain ⟨-, -, b, hb, -⟩ := rec_cut hb
      obtain ⟨c1, c2, c3, bt, bq, c4, c5, -⟩ := body6 e6 hb
      exact ⟨c1, c2, c3, h5.symm, by rw [c4]; rfl, by rw [c5]; rfl⟩
  · rw [if_neg e6]
    constructor
    · intro h; cases h
    · rintro ⟨⟨bs, hb⟩, -⟩
      obtain ⟨h0, h1, b, hb, -⟩ := rec_cut hb
      unfold bodyP at hb
      rw [if_neg e1, if_neg e2, if_neg e3, if_neg e5, if_neg e6] at hb
      cases hb
theorem print_ok (r : S25) : (printF r).2 = 0 ↔ mayB r = true := by
  rw [may_iff]
  unfold printF
  cases h : recP r with
  | none => simp
  | some bs =>
    simp only
    by_cases c : ownR r = r
    · rw [if_pos c]; simp [c]
    · rw [if_neg c]; simp [c]
/-- The reference's reader, at a place. -/
def stOf (s : ByteArray) (p : Nat) : St := (s.extract p s.size, false)
theorem ext_size (s : ByteArray) (p : Nat) : (s.extract p s.size).size = s.size - p := by rw [ByteArray.size_extract]; omega
theorem takeI_ok {s : ByteArray} {p n : Nat} {b : ByteArray} {q : Nat} (hp : p ≤ s.size) (h : takeR s p n = some (b, q)) : takeI (stOf s p) n = (b, stOf s q) := by
  unfold takeR at h
  split at h
  · rename_i c
    simp only [Option.some.injEq, Prod.mk.injEq] at h
    obtain ⟨rfl, rfl⟩ := h
    unfold takeI stOf
    simp only [ext_size]
    rw [if_neg (by simp; omega)]
    have e1 : (s.extract p s.size).extract 0 n = s.extract p (p + n) := by
      rw [ByteArray.extract_extract, Nat.add_zero, Nat.min_eq_left (by omega)]
    have e2 : (s.extract p s.size).extract n (s.size - p) = s.extract (p + n) s.size := by
      rw [ByteArray.extract_extract, show p + (s.size - p) = s.size by omega, Nat.min_self]
    rw [e1, e2]
  · cases h
theorem takeI_bad {x : St} {n : Nat} (h : x.2 = true) : (takeI x n).2.2 = true := by unfold takeI; rw [if_pos (.inl h)]
theorem takeI_none {s : ByteArray} {p n : Nat} (hp : p ≤ s.size) (h : takeR s p n = none) : (takeI (stOf s p) n).2.2 = true := by
  unfold takeR at h
  split at h
  · cases h
  · unfold takeI stOf
    simp only [ext_size]
    rw [if_pos (.inr (by omega))]
theorem smallI_ok {s : ByteArray} {p : Nat} {v : Int} {q : Nat} (hp : p ≤ s.size) (h : smallR s p = some (v, q)) : smallI (stOf s p) = (v, stOf s q) ∧ q ≤ s.size := by
  refine ⟨?_, (small_some h).2.1⟩
  unfold smallR at h
  obtain ⟨⟨b, q'⟩, h1, h2⟩ := Option.map_eq_some_iff.1 h
  simp only [Prod.mk.injEq] at h2
  obtain ⟨rfl, rfl⟩ := h2
  unfold smallI
  rw [takeI_ok hp h1]
theorem smallI_none {s : ByteArray} {p : Nat} (hp : p ≤ s.size) (h : smallR s p = none) : (smallI (stOf s p)).2.2 = true := by
  unfold smallR at h
  rw [Option.map_eq_none_iff] at h
  exact takeI_none hp h
theorem smallI_bad {x : St} (h : x.2 = true) : (smallI x).2.2 = true := takeI_bad h
theorem fourI_ok {s : ByteArray} {p : Nat} {v : Int} {q : Nat} (hp : p ≤ s.size) (h : numR s p = some (v, q)) : fourI (stOf s p) = (v, stOf s q) ∧ q ≤ s.size := by
  refine ⟨?_, (rnum_some h).2.1⟩
  unfold numR at h
  obtain ⟨⟨b, q'⟩, h1, h2⟩ := Option.map_eq_some_iff.1 h
  simp only [Prod.mk.injEq] at h2
  obtain ⟨rfl, rfl⟩ := h2
  unfold fourI
  rw [takeI_ok hp h1]
  rfl
theorem fourI_none {s : ByteArray} {p : Nat} (hp : p ≤ s.size) (h : numR s p = none) : (fourI (stOf s p)).2.2 = true := by
  unfold numR at h
  rw [Option.map_eq_none_iff] at h
  exact takeI_none hp h
theorem fourI_bad {x : St} (h : x.2 = true) : (fourI x).2.2 = true := takeI_bad h
theorem take_le {s : ByteArray} {p n : Nat} {b : ByteArray} {q : Nat} (h : takeR s p n = some (b, q)) : q ≤ s.size := (take_size h).2.2
theorem rowTI_eq {s : ByteArray} {p : Nat} (hp : p ≤ s.size) : match rowT1 s p with
    | some (x, q) => rowTI (stOf s p) = (x, stOf s q) ∧ q ≤ s.size
    | none => (rowTI (stOf s p)).2.2 = true := by
  unfold rowT1 rowTI
  cases h1 : numR s p with
  | none => exact fourI_bad (fourI_bad (fourI_none hp h1))
  | some v =>
  obtain ⟨v, q⟩ := v
  obtain ⟨e1, l1⟩ := fourI_ok hp h1
  rw [e1]
  simp only [Option.bind_some]
  cases h2 : numR s q with
  | none => exact fourI_bad (fourI_none l1 h2)
  | some v2 =>
  obtain ⟨v2, q2⟩ := v2
  obtain ⟨e2, l2⟩ := fourI_ok l1 h2
  rw [e2]
  simp only [Option.bind_some]
  cases h3 : numR s q2 with
  | none => exact fourI_none l2 h3
  | some v3 =>
  obtain ⟨v3, q3⟩ := v3
  obtain ⟨e3, l3⟩ := fourI_ok l2 h3
  rw [e3]
  exact ⟨rfl, l3⟩
theorem rowQI_eq {s : ByteArray} {p : Nat} (hp : p ≤ s.size) : match rowQ1 s p with
    | some (x, q) => rowQI (stOf s p) = (x, stOf s q) ∧ q ≤ s.size
    | none => (rowQI (stOf s p)).2.2 = true := by
  unfold rowQ1 rowQI
  cases h1 : smallR s p with
  | none => exact fourI_bad (smallI_none hp h1)
  | some v =>
  obtain ⟨v, q⟩ := v
  obtain ⟨e1, l1⟩ := smallI_ok hp h1
  rw [e1]
  simp only [Option.bind_some]
  cases h2 : numR s q with
  | none => exact fourI_none l1 h2
  | some v2 =>
  obtain ⟨v2, q2⟩ := v2
  obtain ⟨e2, l2⟩ := fourI_ok l1 h2
  rw [e2]
  exact ⟨rfl, l2⟩
theorem rowsTI_eq {s : ByteArray} {p : Nat} (n : Nat) (hp : p ≤ s.size) : match rowsT s n p with
    | some (x, q) => rowsTI n (stOf s p) = (x, stOf s q) ∧ q ≤ s.size
    | none => (rowsTI n (stOf s p)).2.2 = true := by
  induction n with
  | zero => exact ⟨rfl, hp⟩
  | succ n ih =>
    simp only [rowsT, rowsTI]
    cases h : rowsT s n p with
    | none => rw [h] at ih; simp only at ih; simp only [Option.bind_none]; rw [if_pos ih]; exact ih
    | some v =>
      obtain ⟨L, q⟩ := v
      rw [h] at ih
      obtain ⟨ih, l⟩ := ih
      simp only [Option.bind_some, ih]
      rw [if_neg (by simp [stOf])]
      have k := rowTI_eq l
      cases h1 : rowT1 s q with
      | none => rw [h1] at k; exact k
      | some v1 =>
        obtain ⟨x, q1⟩ := v1
        rw [h1] at k
        obtain ⟨k, l1⟩ := k
        simp only [Option.bind_some, k]
        exact ⟨trivial, l1⟩
theorem rowsQI_eq {s : ByteArray} {p : Nat} (n : Nat) (hp : p ≤ s.size) : match rowsQ s n p with
    | some (x, q) => rowsQI n (stOf s p) = (x, stOf s q) ∧ q ≤ s.size
    | none => (rowsQI n (stOf s p)).2.2 = true := by
  induction n with
  | zero => exact ⟨rfl, hp⟩
  | succ n ih =>
    simp only [rowsQ, rowsQI]
    cases h : rowsQ s n p with
    | none => rw [h] at ih; simp only at ih; simp only [Option.bind_none]; rw [if_pos ih]; exact ih
    | some v =>
      obtain ⟨L, q⟩ := v
      rw [h] at ih
      obtain ⟨ih, l⟩ := ih
      simp only [Option.bind_some, ih]
      rw [if_neg (by simp [stOf])]
      have k := rowQI_eq l
      cases h1 : rowQ1 s q with
      | none => rw [h1] at k; exact k
      | some v1 =>
        obtain ⟨x, q1⟩ := v1
        rw [h1] at k
        obtain ⟨k, l1⟩ := k
        simp only [Option.bind_some, k]
        exact ⟨trivial, l1⟩
theorem rowsTI_bad0 {n : Nat} {x : St} (h : x.2 = true) : (rowsTI n x).2.2 = true := by
  have := rowsTI_bad (n := 0) (m := n) (x := x) h (Nat.zero_le _)
  rw [this]; exact h
theorem rowsQI_bad0 {n : Nat} {x : St} (h : x.2 = true) : (rowsQI n x).2.2 = true := by
  have := rowsQI_bad (n := 0) (m := n) (x := x) h (Nat.zero_le _)
  rw [this]; exact h
attribute [local irreducible] takeI smallI fourI rowsTI rowsQI
set_option maxHeartbeats 4000000 in
/-- The reference's reader reads the same. -/
theorem recI_eq {s : ByteArray} {p : Nat} (hp : p ≤ s.size) : match recR s p with
    | some (x, q) => recI (stOf s p) = (x, stOf s q) ∧ q ≤ s.size
    | none => (recI (stOf s p)).2.2 = true := by
  unfold recR recI
  cases h0 : smallR s p with
  | none =>
    have b0 := smallI_none hp h0
    simp only [Option.bind_none]
    split
    · unfold recI1; exact takeI_bad (takeI_bad (smallI_bad (smallI_bad (smallI_bad (fourI_bad (fourI_bad b0))))))
    · split
      · unfold recI2; exact takeI_bad (smallI_bad (smallI_bad (smallI_bad (fourI_bad (fourI_bad (fourI_bad b0))))))
      · split
        · unfold recI3; exact fourI_bad (fourI_bad b0)
        · split
          · unfold recI6; exact rowsQI_bad0 (smallI_bad (rowsTI_bad0 (smallI_bad (fourI_bad b0))))
          · exact b0
  | some v0 =>
  obtain ⟨v, p1⟩ := v0
  obtain ⟨e0, l0⟩ := smallI_ok hp h0
  simp only [e0, Option.bind_some]
  by_cases c1 : v = 1
  · rw [if_pos c1, if_pos c1]
    unfold recI1
    cases h1 : numR s p1 with
    | none => exact takeI_bad (takeI_bad (smallI_bad (smallI_bad (smallI_bad (fourI_bad (fourI_none l0 h1))))))
    | some z => ?_
    obtain ⟨t, p2⟩ := z
    obtain ⟨e1, l1⟩ := fourI_ok l0 h1
    simp only [e1, Option.bind_some]
    cases h2 : numR s p2 with
    | none => exact takeI_bad (takeI_bad (smallI_bad (smallI_bad (smallI_bad (fourI_none l1 h2)))))
    | some z => ?_
    obtain ⟨pv, p3⟩ := z
    obtain ⟨e2, l2⟩ := fourI_ok l1 h2
    simp only [e2, Option.bind_some]
    cases h3 : smallR s p3 with
    | none => exact takeI_bad (takeI_bad (smallI_bad (smallI_bad (smallI_none l2 h3))))
    | some z => ?_
    obtain ⟨pg, p4⟩ := z
    obtain ⟨e3, l3⟩ := smallI_ok l2 h3
    simp only [e3, Option.bind_some]
    cases h4 : smallR s p4 with
    | none => exact takeI_bad (takeI_bad (smallI_bad (smallI_none l3 h4)))
    | some z => ?_
    obtain ⟨o, p5⟩ := z
    obtain ⟨e4, l4⟩ := smallI_ok l3 h4
    simp only [e4, Option.bind_some]
    cases h5 : smallR s p5 with
    | none => exact takeI_bad (takeI_bad (smallI_none l4 h5))
    | some z => ?_
    obtain ⟨n, p6⟩ := z
    obtain ⟨e5, l5⟩ := smallI_ok l4 h5
    simp only [e5, Option.bind_some]
    cases h6 : takeR s p6 n.toNat with
    | none => exact takeI_bad (takeI_none l5 h6)
    | some z => ?_
    obtain ⟨be, p7⟩ := z
    have e6 := takeI_ok l5 h6
    have l6 := take_le h6
    simp only [e6, Option.bind_some]
    cases h7 : takeR s p7 n.toNat with
    | none => exact takeI_none l6 h7
    | some z => ?_
    obtain ⟨af, p8⟩ := z
    have e7 := takeI_ok l6 h7
    simp only [e7, Option.bind_some]
    exact ⟨trivial, take_le h7⟩
  rw [if_neg c1, if_neg c1]
  by_cases c2 : v = 2
  · rw [if_pos c2, if_pos c2]
    unfold recI2
    cases h1 : numR s p1 with
    | none => exact takeI_bad (smallI_bad (smallI_bad (smallI_bad (fourI_bad (fourI_bad (fourI_none l0 h1))))))
    | some z => ?_
    obtain ⟨t, p2⟩ := z
    obtain ⟨e1, l1⟩ := fourI_ok l0 h1
    simp only [e1, Option.bind_some]
    cases h2 : numR s p2 with
    | none => exact takeI_bad (smallI_bad (smallI_bad (smallI_bad (fourI_bad (fourI_none l1 h2)))))
    | some z => ?_
    obtain ⟨pv, p3⟩ := z
    obtain ⟨e2, l2⟩ := fourI_ok l1 h2
    simp only [e2, Option.bind_some]
    cases h2b : numR s p3 with
    | none => exact takeI_bad (smallI_bad (smallI_bad (smallI_bad (fourI_none l2 h2b))))
    | some z => ?_
    obtain ⟨nx, p3b⟩ := z
    obtain ⟨e2b, l2b⟩ := fourI_ok l2 h2b
    simp only [e2b, Option.bind_some]
    cases h3 : smallR s p3b with
    | none => exact takeI_bad (smallI_bad (smallI_bad (smallI_none l2b h3)))
    | some z => ?_
    obtain ⟨pg, p4⟩ := z
    obtain ⟨e3, l3⟩ := smallI_ok l2b h3
    simp only [e3, Option.bind_some]
    cases h4 : smallR s p4 with
    | none => exact takeI_bad (smallI_bad (smallI_none l3 h4))
    | some z => ?_
    obtain ⟨o, p5⟩ := z
    obtain ⟨e4, l4⟩ := smallI_ok l3 h4
    simp only [e4, Option.bind_some]
    cases h5 : smallR s p5 with
    | none => exact takeI_bad (smallI_none l4 h5)
    | some z => ?_
    obtain ⟨n, p6⟩ := z
    obtain ⟨e5, l5⟩ := smallI_ok l4 h5
    simp only [e5, Option.bind_some]
    cases h7 : takeR s p6 n.toNat with
    | none => exact takeI_none l5 h7
    | some z => ?_
    obtain ⟨af, p8⟩ := z
    have e7 := takeI_ok l5 h7
    simp only [e7, Option.bind_some]
    exact ⟨trivial, take_le h7⟩
  rw [if_neg c2, if_neg c2]
  by_cases c3 : v = 3 ∨ v = 4
  · rw [if_pos c3, if_pos c3]
    unfold recI3
    cases h1 : numR s p1 with
    | none => exact fourI_bad (fourI_none l0 h1)
    | some z => ?_
    obtain ⟨t, p2⟩ := z
    obtain ⟨e1, l1⟩ := fourI_ok l0 h1
    simp only [e1, Option.bind_some]
    cases h2 : numR s p2 with
    | none => exact fourI_none l1 h2
    | some z => ?_
    obtain ⟨pv, p3⟩ := z
    obtain ⟨e2, l2⟩ := fourI_ok l1 h2
    simp only [e2, Option.bind_some]
    exact ⟨trivial, l2⟩
  rw [if_neg c3, if_neg c3]
  by_cases c6 : v = 6
  · rw [if_pos c6, if_pos c6]
    unfold recI6
    cases h1 : numR s p1 with
    | none => exact rowsQI_bad0 (smallI_bad (rowsTI_bad0 (smallI_bad (fourI_none l0 h1))))
    | some z => ?_
    obtain ⟨b, p2⟩ := z
    obtain ⟨e1, l1⟩ := fourI_ok l0 h1
    simp only [e1, Option.bind_some]
    cases h2 : smallR s p2 with
    | none => exact rowsQI_bad0 (smallI_bad (rowsTI_bad0 (smallI_none l1 h2)))
    | some z => ?_
    obtain ⟨n, p3⟩ := z
    obtain ⟨e2, l2⟩ := smallI_ok l1 h2
    simp only [e2, Option.bind_some]
    have k3 := rowsTI_eq n.toNat l2
    cases h3 : rowsT s n.toNat p3 with
    | none => rw [h3] at k3; exact rowsQI_bad0 (smallI_bad k3)
    | some z => ?_
    obtain ⟨tx, p4⟩ := z
    rw [h3] at k3
    obtain ⟨e3, l3⟩ := k3
    simp only [e3, Option.bind_some]
    cases h4 : smallR s p4 with
    | none => exact rowsQI_bad0 (smallI_none l3 h4)
    | some z => ?_
    obtain ⟨m, p5⟩ := z
    obtain ⟨e4, l4⟩ := smallI_ok l3 h4
    simp only [e4, Option.bind_some]
    have k5 := rowsQI_eq m.toNat l4
    cases h5 : rowsQ s m.toNat p5 with
    | none => rw [h5] at k5; exact k5
    | some z => ?_
    obtain ⟨pq, p6⟩ := z
    rw [h5] at k5
    obtain ⟨e5, l5⟩ := k5
    simp only [e5, Option.bind_some]
    exact ⟨trivial, l5⟩
  rw [if_neg c6, if_neg c6]
  exact ⟨rfl, l0⟩
/-- The reference reads what the program reads. -/
theorem rread_eq (s : ByteArray) (p : Int) : rreadF s p = readF s p := by
  unfold rreadF readF
  by_cases c : p < 0 ∨ (s.size : Int) < p
  · rw [if_pos c, if_pos c]; rfl
  rw [if_neg c, if_neg c]
  have hp : p.toNat ≤ s.size := by omega
  have k := recI_eq hp
  unfold stOf at k
  cases h : recR s p.toNat with
  | none => rw [h] at k; simp only at k ⊢; rw [if_pos (.inl k)]; rfl
  | some z =>
    obtain ⟨x, q⟩ := z
    rw [h] at k
    obtain ⟨k, l⟩ := k
    simp only [k]
    by_cases m : mayB x = true
    · rw [if_neg (by simp [m]), if_pos ((print_ok x).2 m), ext_size]
      congr 2
      omega
    · rw [if_pos (.inr (by simpa using m)), if_neg (fun e => m ((print_ok x).1 e))]; rfl
end Go.Proofs.Ytcfknakmamcinaa.Pt
namespace Go.Proofs.Ytcfknakmamcinaa.Pt
open Go Go.RowKit Go.Proofs.YtcfknakmamcinaaW.PrintWords Go.Proofs.Ytcfknakmamcinaa.X4 Go.Proofs.Ytcfknakmamcinaa.Rp Go.Proofs.Ytcfknakmamcinaa.Wr
set_option linter.unusedVariables false
set_option linter.unusedSimpArgs false
def B (l : List UInt8) : ByteArray := ⟨l.toArray⟩
theorem rowT_bytes {x : S66} {b : List UInt8} (h : rowT x = some b) : b = four x.f0 ++ (four x.f1 ++ four x.f2) := by
  unfold rowT at h
  obtain ⟨a, c, ha, hc, rfl⟩ := cat_eq h
  obtain ⟨-, -, rfl⟩ := txn_eq2 ha
  obtain ⟨-, -, rfl⟩ := num_eq3 hc
  rfl
theorem rowQ_bytes {x : S68} {b : List UInt8} (h : rowQ x = some b) : b = [b8 x.f0] ++ four x.f1 := by
  unfold rowQ at h
  obtain ⟨a, c, ha, hc, rfl⟩ := cat_eq h
  obtain ⟨-, -, rfl⟩ := small_eq2 ha
  obtain ⟨-, rfl⟩ := num_eq2 hc
  rfl
theorem wrap_succ {j : Nat} (h : j ≤ 1000000) : wrap64 ((j : Int) + 1) = ((j + 1 : Nat) : Int) := by unfold wrap64; omega
/-- How long a record's bytes are. -/
theorem rec_len {r : S25} {bs : List UInt8} (h : recP r = some bs) : bs.length = (if r.f0 = 1 then 12 + 2 * r.f8.size else if r.f0 = 2 then 16 + r.f8.size else if r.f0 = 3 ∨ r.f0 = 4 then 9 else if r.f0 = 5 then 1 else 7 + 12 * r.f9.length + 5 * r.f10.length) ∧ bs.length ≤ 112 ∧ 1 ≤ bs.length := by
  obtain ⟨k0, k6, b, hb, rfl⟩ := rec_cut h
  by_cases e1 : r.f0 = 1
  · obtain ⟨⟨c1, c2⟩, c3, ⟨c4, c5⟩, ⟨c6, c7⟩, ⟨c8, c9⟩, c10, rfl⟩ := body1 e1 hb
    rw [if_pos e1]
    simp [four_len, len_eq, c10]
    omega
  rw [if_neg e1]
  by_cases e2 : r.f0 = 2
  · obtain ⟨⟨c1, c2⟩, c3, c3b, ⟨c4, c5⟩, ⟨c6, c7⟩, ⟨c8, c9⟩, rfl⟩ := body2 e2 hb
    rw [if_pos e2]
    simp [four_len, len_eq]
    omega
  rw [if_neg e2]
  by_cases e3 : r.f0 = 3 ∨ r.f0 = 4
  · obtain ⟨⟨c1, c2⟩, c3, rfl⟩ := body3 e3 hb
    rw [if_pos e3]
    simp [four_len]
  rw [if_neg e3]
  by_cases e6 : r.f0 = 6
  · obtain ⟨c1, c2, c3, bt, bq, c4, c5, rfl⟩ := body6 e6 hb
    have lt : bt.length = 12 * r.f9.length := by
      have key : ∀ (l : List S66) (b : List UInt8), joinP (l.map rowT) = some b → b.length = 12 * l.length := fun l => by
        induction l with
        | nil => intro b h; injection h with h; subst h; rfl
        | cons x t ih =>
          intro b h
          rw [List.map_cons, joinP] at h
          obtain ⟨u, v, hu, hv, rfl⟩ := cat_eq h
          rw [List.length_append, ih v hv, rowT_bytes hu]
          simp [four_len]
          omega
      exact key _ _ c4
    have lq : bq.length = 5 * r.f10.length := by
      have key : ∀ (l : List S68) (b : List UInt8), joinP (l.map rowQ) = some b → b.length = 5 * l.length := fun l => by
        induction l with
        | nil => intro b h; injection h with h; subst h; rfl
        | cons x t ih =>
          intro b h
          rw [List.map_cons, joinP] at h
          obtain ⟨u, v, hu, hv, rfl⟩ := cat_eq h
          rw [List.length_append, ih v hv, rowQ_bytes hu]
          simp [four_len]
          omega
      exact key _ _ c5
    rw [if_neg (by omega)]
    simp [four_len, lt, lq]
    omega
  · have hb5 : b = [] ∧ r.f0 = 5 := by
      unfold bodyP at hb
      rw [if_neg e1, if_neg e2, if_neg e3] at hb
      split at hb
      · rename_i c; injection hb with hb; exact ⟨hb.symm, c⟩
      · simp [e6] at hb
    obtain ⟨rfl, e5⟩ := hb5
    rw [if_pos e5]
    simp
/-- What is read. -/
theorem read_some {s : ByteArray} {p : Int} (h : (readF s p).2.2 = 0) : ∃ bs q, 0 ≤ p ∧ recP (readF s p).1 = some bs ∧ ownR (readF s p).1 = (readF s p).1 ∧ At s p.toNat bs ∧ q = p.toNat + bs.length ∧ (readF s p).2.1 = (q : Int) ∧ q ≤ s.size ∧ p.toNat < q := by
  unfold readF at h ⊢
  by_cases c : p < 0 ∨ (s.size : Int) < p
  · rw [if_pos c] at h; cases h
  rw [if_neg c] at h ⊢
  cases h1 : recR s p.toNat with
  | none => rw [h1] at h; cases h
  | some z =>
    obtain ⟨x, q⟩ := z
    rw [h1] at h
    simp only at h ⊢
    by_cases m : (printF x).2 = 0
    · rw [if_pos m]
      obtain ⟨⟨b2, hb2⟩, o2⟩ := (may_iff x).1 ((print_ok x).1 m)
      obtain ⟨a2, e2⟩ := rec_to_at h1 hb2
      have := (rec_len hb2).2.2
      have := a2.1
      exact ⟨b2, q, by omega, hb2, o2, a2, e2, rfl, by omega, by omega⟩
    · rw [if_neg m] at h; cases h
theorem read_err {s : ByteArray} {p : Int} (h : (readF s p).2.2 ≠ 0) : (readF s p).1 = Wr.zR ∧ (readF s p).2.1 = 0 := by
  unfold readF at h ⊢
  split
  · exact ⟨rfl, rfl⟩
  · rename_i c
    rw [if_neg c] at h
    split
    · exact ⟨rfl, rfl⟩
    · rename_i q e
      rw [e] at h
      simp only at h ⊢
      by_cases m : (printF q.1).2 = 0
      · rw [if_pos m] at h; exact absurd rfl h
      · rw [if_neg m]; exact ⟨rfl, rfl⟩
theorem rows_le {r : S25} (h : mayB r = true) : r.f9.length ≤ 8 ∧ r.f10.length ≤ 8 ∧ r.f8.size ≤ 300 := by
  obtain ⟨⟨bs, hb⟩, ho⟩ := (may_iff r).1 h
  have ow := own_small hb
  rw [ho] at ow
  have ln := rec_len hb
  refine ⟨by omega, by omega, ?_⟩
  by_cases e1 : r.f0 = 1
  · rw [if_pos e1] at ln; omega
  by_cases e2 : r.f0 = 2
  · rw [if_neg e1, if_pos e2] at ln; omega
  have : (ownR r).f8 = ⟨#[]⟩ := by
    unfold ownR
    rw [if_neg e1, if_neg e2]
    split
    · rfl
    · split <;> rfl
  rw [ho] at this
  rw [this]
  exact Nat.zero_le _
end Go.Proofs.Ytcfknakmamcinaa.Pt
