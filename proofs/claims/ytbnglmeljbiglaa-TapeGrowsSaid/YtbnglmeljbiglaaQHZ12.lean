import Derived.Deep.CutBlock
import Derived.Deep.DeepCutAuto
import Derived.Test.YtbnglmeljbiglaaProg
import Derived.Below
import Derived.Deep.Draws
import Derived.Deep.AppendLies
import Derived.Maps.AppendAt
import Derived.OwnWalk
import Derived.Laws.BytesArg
import Derived.Laws.MakeOwn
import Derived.Laws.OwnMore
import Derived.Deep.OwnRows
import Derived.Tactics
import Derived.Lib.ConvBytes
import Derived.Laws.Slices
import Derived.WalkKit
import Derived.KernelRfl
import Derived.RowKit3
import Derived.Deep.LoopGhost
import Derived.Deep.QuietTactic
import Derived.BigQuiet
import Derived.WideLaws
import Derived.Deep.RegionHeld3
import Derived.Laws.Rows
import Derived.Lib.AppendStr
import Derived.ArgAppend
import Derived.Laws.IdiomCopy
import Derived.OrdersHeld
import Derived.Laws.BitsLemmas
import Derived.RowKit
import Derived.Test.YtbnglmeljbiglaaQHZ0
import Derived.Test.YtbnglmeljbiglaaQHZ1
import Derived.Test.YtbnglmeljbiglaaQHZ2
import Derived.Test.YtbnglmeljbiglaaQHZ3
import Derived.Test.YtbnglmeljbiglaaQHZ4
import Derived.Test.YtbnglmeljbiglaaQHZ5
import Derived.Test.YtbnglmeljbiglaaQHZ6
import Derived.Test.YtbnglmeljbiglaaQHZ7
import Derived.Test.YtbnglmeljbiglaaQHZ8
import Derived.Test.YtbnglmeljbiglaaQHZ9
import Derived.Test.YtbnglmeljbiglaaQHZ10
import Derived.Test.YtbnglmeljbiglaaQHZ11
set_option maxRecDepth 8192
namespace Go.Proofs.Ytbnglmeljbiglaa.Pt
open Go Go.RowKit Go.Proofs.YtbnglmeljbiglaaW.PrintWords Go.Proofs.Ytbnglmeljbiglaa.X4 Go.Proofs.Ytbnglmeljbiglaa.Rp Go.Proofs.Ytbnglmeljbiglaa.Wr
set_option linter.unusedVariables false
set_option linter.unusedSimpArgs false
theorem small_mk {n m : Int} (h0 : 0 ≤ n) (h1 : n ≤ m) : smallP n m = some [b8 n] := by unfold smallP; rw [if_pos ⟨h0, h1⟩]
theorem num_mk1 {n : Int} (h : isNum n = true) : numP [n] = some (four n) := by unfold numP; rw [if_pos (by simp [h])]; simp
theorem num_mk2 {n m : Int} (h : isNum n = true) (h2 : isNum m = true) : numP [n, m] = some (four n ++ four m) := by unfold numP; rw [if_pos (by simp [h, h2])]; simp
theorem txn_mk {n : Int} (h0 : 1 ≤ n) (h : isNum n = true) : txnP n = some (four n) := by unfold txnP; rw [if_pos h0, num_mk1 h]
theorem place_mk {p o n : Int} (h1 : 0 ≤ p ∧ p ≤ 7) (h2 : 0 ≤ o ∧ o ≤ 220 - min n 220) (h3 : 1 ≤ n ∧ n ≤ 16) : placeP p o n = some ([b8 p] ++ ([b8 o] ++ [b8 n])) := by
  unfold placeP
  rw [if_pos h3.1, small_mk h1.1 h1.2, small_mk h2.1 h2.2, small_mk (by omega) h3.2]
  rfl
theorem rowT_iff (x : S107) : rowTB x = (rowT x).isSome := by
  cases h : rowT x with
  | some bs =>
    unfold rowT at h
    obtain ⟨a, b, ha, hb, -⟩ := cat_eq h
    obtain ⟨h1, h2, -⟩ := txn_eq2 ha
    obtain ⟨h3, h4, -⟩ := num_eq3 hb
    simp [rowTB, h1, h2, h3, h4]
  | none =>
    cases hb : rowTB x with
    | false => rfl
    | true =>
      simp only [rowTB, List.all_cons, List.all_nil, Bool.and_true, Bool.and_eq_true, decide_eq_true_eq] at hb
      obtain ⟨h1, h2, h3, h4⟩ := hb
      unfold rowT at h
      rw [txn_mk h1 h2, num_mk2 h3 h4] at h
      cases h
theorem rowQ_iff (x : S109) : rowQB x = (rowQ x).isSome := by
  cases h : rowQ x with
  | some bs =>
    unfold rowQ at h
    obtain ⟨a, b, ha, hb, -⟩ := cat_eq h
    obtain ⟨h1, h2, -⟩ := small_eq2 ha
    obtain ⟨h3, -⟩ := num_eq2 hb
    simp [rowQB, h1, h2, h3]
  | none =>
    cases hb : rowQB x with
    | false => rfl
    | true =>
      simp only [rowQB, Bool.and_eq_true, decide_eq_true_eq] at hb
      obtain ⟨⟨h1, h2⟩, h3⟩ := hb
      unfold rowQ at h
      rw [small_mk h1 h2, num_mk1 h3] at h
      cases h
theorem join_iff {α : Type} (f : α → Option (List UInt8)) (b : α → Bool) (h : ∀ x, b x = (f x).isSome) (l : List α) : l.all b = (joinP (l.map f)).isSome := by
  induction l with
  | nil => rfl
  | cons x t ih =>
    simp only [List.all_cons, List.map_cons, joinP, ih, h x]
    cases f x <;> cases joinP (t.map f) <;> rfl
theorem some_of {α : Type} {o : Option α} (h : o.isSome = true) : ∃ x, o = some x := Option.isSome_iff_exists.1 h
/-- What may be is what is printed. -/
theorem may_iff (r : S37) : mayB r = true ↔ (∃ bs, recP r = some bs) ∧ ownR r = r := by
  unfold mayB
  by_cases e1 : r.f0 = 1
  · rw [if_pos e1]
    simp only [Bool.and_eq_true, decide_eq_true_eq, List.all_cons, List.all_nil, Bool.and_true, spotB]
    have ho : ownR r = ⟨1, r.f1, r.f2, r.f3, r.f4, 0, 0, r.f7, r.f8, [], []⟩ := by unfold ownR; rw [if_pos e1]
    rw [ho]
    constructor
    · rintro ⟨h1, ⟨h2, h3⟩, ⟨g1, g2, g3, g4, g5, g6, g7⟩, h4, h5⟩
      refine ⟨some_of ?_, h5.symm⟩
      unfold recP bodyP
      rw [small_mk (by omega) (by omega), if_pos e1, txn_mk h1 h2, num_mk1 h3, place_mk ⟨g1, g2⟩ ⟨g3, by omega⟩ ⟨by omega, by omega⟩, if_pos h4]
      rfl
    · rintro ⟨⟨bs, hb⟩, h5⟩
      obtain ⟨-, -, b, hb, -⟩ := rec_cut hb
      obtain ⟨⟨c1, c2⟩, c3, ⟨c4, c5⟩, ⟨c6, c7⟩, ⟨c8, c9⟩, c10, -⟩ := body1 e1 hb
      exact ⟨c1, ⟨c2, c3⟩, ⟨c4, c5, c6, by omega, by omega, by omega, by omega⟩, c10, h5.symm⟩
  rw [if_neg e1]
  by_cases e2 : r.f0 = 2
  · rw [if_pos e2]
    simp only [Bool.and_eq_true, decide_eq_true_eq, List.all_cons, List.all_nil, Bool.and_true, spotB]
    have ho : ownR r = ⟨2, r.f1, r.f2, r.f3, r.f4, r.f5, 0, ⟨#[]⟩, r.f8, [], []⟩ := by unfold ownR; rw [if_neg e1, if_pos e2]
    rw [ho]
    constructor
    · rintro ⟨h1, ⟨h2, h3, h3b⟩, ⟨g1, g2, g3, g4, g5, g6, g7⟩, h5⟩
      refine ⟨some_of ?_, h5.symm⟩
      unfold recP bodyP
      rw [small_mk (by omega) (by omega), if_neg e1, if_pos e2, txn_mk h1 h2, num_mk2 h3 h3b, place_mk ⟨g1, g2⟩ ⟨g3, by omega⟩ ⟨by omega, by omega⟩]
      rfl
    · rintro ⟨⟨bs, hb⟩, h5⟩
      obtain ⟨-, -, b, hb, -⟩ := rec_cut hb
      obtain ⟨⟨c1, c2⟩, c3, c3b, ⟨c4, c5⟩, ⟨c6, c7⟩, ⟨c8, c9⟩, -⟩ := body2 e2 hb
      exact ⟨c1, ⟨c2, c3, c3b⟩, ⟨c4, c5, c6, by omega, by omega, by omega, by omega⟩, h5.symm⟩
  rw [if_neg e2]
  by_cases e3 : r.f0 = 3 ∨ r.f0 = 4
  · rw [if_pos e3]
    simp only [Bool.and_eq_true, decide_eq_true_eq, List.all_cons, List.all_nil, Bool.and_true]
    have ho : ownR r = ⟨r.f0, r.f1, 0, 0, r.f4, 0, 0, ⟨#[]⟩, ⟨#[]⟩, [], []⟩ := by unfold ownR; rw [if_neg e1, if_neg e2, if_pos e3]
    rw [ho]
    constructor
    · rintro ⟨h1, ⟨h2, h3⟩, h5⟩
      refine ⟨some_of ?_, h5.symm⟩
      unfold recP bodyP
      rw [small_mk (by omega) (by omega), if_neg e1, if_neg e2, if_pos e3, txn_mk h1 h2, num_mk1 h3]
      rfl
    · rintro ⟨⟨bs, hb⟩, h5⟩
      obtain ⟨-, -, b, hb, -⟩ := rec_cut hb
      obtain ⟨⟨c1, c2⟩, c3, -⟩ := body3 e3 hb
      exact ⟨c1, ⟨c2, c3⟩, h5.symm⟩
  rw [if_neg e3]
  by_cases e5 : r.f0 = 5
  · rw [if_pos e5, decide_eq_true_eq]
    have ho : ownR r = ⟨5, 0, 0, 0, 0, 0, 0, ⟨#[]⟩, ⟨#[]⟩, [], []⟩ := by unfold ownR; rw [if_neg e1, if_neg e2, if_neg e3, if_neg (by omega), e5]
    rw [ho]
    constructor
    · intro h5
      refine ⟨some_of ?_, h5.symm⟩
      unfold recP bodyP
      rw [small_mk (by omega) (by omega), if_neg e1, if_neg e2, if_neg e3, if_pos e5]
      rfl
    · rintro ⟨-, h5⟩
      exact h5.symm
  rw [if_neg e5]
  by_cases e6 : r.f0 = 6
  · rw [if_pos e6]
    simp only [Bool.and_eq_true, decide_eq_true_eq, List.all_cons, List.all_nil, Bool.and_true]
    have ho : ownR r = ⟨6, 0, 0, 0, 0, 0, r.f6, ⟨#[]⟩, ⟨#[]⟩, r.f9, r.f10⟩ := by unfold ownR; rw [if_neg e1, if_neg e2, if_neg e3, if_pos e6]
    rw [ho, join_iff rowT rowTB rowT_iff, join_iff rowQ rowQB rowQ_iff]
    constructor
    · rintro ⟨h1, h2, h3, h4, h5, h6⟩
      obtain ⟨bt, h5⟩ := some_of h5
      obtain ⟨bq, h6⟩ := some_of h6
      refine ⟨some_of ?_, h4.symm⟩
      unfold recP bodyP tablesP
      rw [small_mk (by omega) (by omega), if_neg e1, if_neg e2, if_neg e3, if_neg e5, if_pos e6, num_mk1 h1, small_mk (by omega) (by omega), h5, small_mk (by omega) (by omega), h6]
      rfl
    · rintro ⟨⟨bs, hb⟩, h5⟩
      obtain ⟨-, -, b, hb, -⟩ := rec_cut hb
      obtain ⟨c1, c2, c3, bt, bq, c4, c5, -⟩ := body6 e6 hb
      exact ⟨c1, c2, c3, h5.symm, by rw [c4]; rfl, by rw [c5]; rfl⟩
  · rw [if_neg e6]
    constructor
    · intro h; cases h
    · rintro ⟨⟨bs, hb⟩, -⟩
      obtain ⟨h0, h1, b, hb, -⟩ := rec_cut hb
      unfold bodyP at hb
      rw [if_neg e1, if_neg e2, if_neg e3, if_neg e5, if_neg e6] at hb
      cases hb
theorem print_ok (r : S37) : (printF r).2 = 0 ↔ mayB r = true := by
  rw [may_iff]
  unfold printF
  cases h : recP r with
  | none => simp
  | some bs =>
    simp only
    by_cases c : ownR r = r
    · rw [if_pos c]; simp [c]
    · rw [if_neg c]; simp [c]
/-- The reference's reader, at a place. -/
def stOf (s : ByteArray) (p : Nat) : St := (s.extract p s.size, false)
theorem ext_size (s : ByteArray) (p : Nat) : (s.extract p s.size).size = s.size - p := by rw [ByteArray.size_extract]; omega
theorem takeI_ok {s : ByteArray} {p n : Nat} {b : ByteArray} {q : Nat} (hp : p ≤ s.size) (h : takeR s p n = some (b, q)) : takeI (stOf s p) n = (b, stOf s q) := by
  unfold takeR at h
  split at h
  · rename_i c
    simp only [Option.some.injEq, Prod.mk.injEq] at h
    obtain ⟨rfl, rfl⟩ := h
    unfold takeI stOf
    simp only [ext_size]
    rw [if_neg (by simp; omega)]
    have e1 : (s.extract p s.size).extract 0 n = s.extract p (p + n) := by
      rw [ByteArray.extract_extract, Nat.add_zero, Nat.min_eq_left (by omega)]
    have e2 : (s.extract p s.size).extract n (s.size - p) = s.extract (p + n) s.size := by
      rw [ByteArray.extract_extract, show p + (s.size - p) = s.size by omega, Nat.min_self]
    rw [e1, e2]
  · cases h
theorem takeI_bad {x : St} {n : Nat} (h : x.2 = true) : (takeI x n).2.2 = true := by unfold takeI; rw [if_pos (.inl h)]
theorem takeI_none {s : ByteArray} {p n : Nat} (hp : p ≤ s.size) (h : takeR s p n = none) : (takeI (stOf s p) n).2.2 = true := by
  unfold takeR at h
  split at h
  · cases h
  · unfold takeI stOf
    simp only [ext_size]
    rw [if_pos (.inr (by omega))]
theorem smallI_ok {s : ByteArray} {p : Nat} {v : Int} {q : Nat} (hp : p ≤ s.size) (h : smallR s p = some (v, q)) : smallI (stOf s p) = (v, stOf s q) ∧ q ≤ s.size := by
  refine ⟨?_, (small_some h).2.1⟩
  unfold smallR at h
  obtain ⟨⟨b, q'⟩, h1, h2⟩ := Option.map_eq_some_iff.1 h
  simp only [Prod.mk.injEq] at h2
  obtain ⟨rfl, rfl⟩ := h2
  unfold smallI
  rw [takeI_ok hp h1]
theorem smallI_none {s : ByteArray} {p : Nat} (hp : p ≤ s.size) (h : smallR s p = none) : (smallI (stOf s p)).2.2 = true := by
  unfold smallR at h
  rw [Option.map_eq_none_iff] at h
  exact takeI_none hp h
theorem smallI_bad {x : St} (h : x.2 = true) : (smallI x).2.2 = true := takeI_bad h
theorem fourI_ok {s : ByteArray} {p : Nat} {v : Int} {q : Nat} (hp : p ≤ s.size) (h : numR s p = some (v, q)) : fourI (stOf s p) = (v, stOf s q) ∧ q ≤ s.size := by
  refine ⟨?_, (rnum_some h).2.1⟩
  unfold numR at h
  obtain ⟨⟨b, q'⟩, h1, h2⟩ := Option.map_eq_some_iff.1 h
  simp only [Prod.mk.injEq] at h2
  obtain ⟨rfl, rfl⟩ := h2
  unfold fourI
  rw [takeI_ok hp h1]
  rfl
theorem fourI_none {s : ByteArray} {p : Nat} (hp : p ≤ s.size) (h : numR s p = none) : (fourI (stOf s p)).2.2 = true := by
  unfold numR at h
  rw [Option.map_eq_none_iff] at h
  exact takeI_none hp h
theorem fourI_bad {x : St} (h : x.2 = true) : (fourI x).2.2 = true := takeI_bad h
theorem take_le {s : ByteArray} {p n : Nat} {b : ByteArray} {q : Nat} (h : takeR s p n = some (b, q)) : q ≤ s.size := (take_size h).2.2
theorem rowTI_eq {s : ByteArray} {p : Nat} (hp : p ≤ s.size) : match rowT1 s p with
    | some (x, q) => rowTI (stOf s p) = (x, stOf s q) ∧ q ≤ s.size
    | none => (rowTI (stOf s p)).2.2 = true := by
  unfold rowT1 rowTI
  cases h1 : numR s p with
  | none => exact fourI_bad (fourI_bad (fourI_none hp h1))
  | some v =>
  obtain ⟨v, q⟩ := v
  obtain ⟨e1, l1⟩ := fourI_ok hp h1
  rw [e1]
  simp only [Option.bind_some]
  cases h2 : numR s q with
  | none => exact fourI_bad (fourI_none l1 h2)
  | some v2 =>
  obtain ⟨v2, q2⟩ := v2
  obtain ⟨e2, l2⟩ := fourI_ok l1 h2
  rw [e2]
  simp only [Option.bind_some]
  cases h3 : numR s q2 with
  | none => exact fourI_none l2 h3
  | some v3 =>
  obtain ⟨v3, q3⟩ := v3
  obtain ⟨e3, l3⟩ := fourI_ok l2 h3
  rw [e3]
  exact ⟨rfl, l3⟩
theorem rowQI_eq {s : ByteArray} {p : Nat} (hp : p ≤ s.size) : match rowQ1 s p with
    | some (x, q) => rowQI (stOf s p) = (x, stOf s q) ∧ q ≤ s.size
    | none => (rowQI (stOf s p)).2.2 = true := by
  unfold rowQ1 rowQI
  cases h1 : smallR s p with
  | none => exact fourI_bad (smallI_none hp h1)
  | some v =>
  obtain ⟨v, q⟩ := v
  obtain ⟨e1, l1⟩ := smallI_ok hp h1
  rw [e1]
  simp only [Option.bind_some]
  cases h2 : numR s q with
  | none => exact fourI_none l1 h2
  | some v2 =>
  obtain ⟨v2, q2⟩ := v2
  obtain ⟨e2, l2⟩ := fourI_ok l1 h2
  rw [e2]
  exact ⟨rfl, l2⟩
theorem rowsTI_eq {s : ByteArray} {p : Nat} (n : Nat) (hp : p ≤ s.size) : match rowsT s n p with
    | some (x, q) => rowsTI n (stOf s p) = (x, stOf s q) ∧ q ≤ s.size
    | none => (rowsTI n (stOf s p)).2.2 = true := by
  induction n with
  | zero => exact ⟨rfl, hp⟩
  | succ n ih =>
    simp only [rowsT, rowsTI]
    cases h : rowsT s n p with
    | none => rw [h] at ih; simp only at ih; simp only [Option.bind_none]; rw [if_pos ih]; exact ih
    | some v =>
      obtain ⟨L, q⟩ := v
      rw [h] at ih
      obtain ⟨ih, l⟩ := ih
      simp only [Option.bind_some, ih]
      rw [if_neg (by simp [stOf])]
      have k := rowTI_eq l
      cases h1 : rowT1 s q with
      | none => rw [h1] at k; exact k
      | some v1 =>
        obtain ⟨x, q1⟩ := v1
        rw [h1] at k
        obtain ⟨k, l1⟩ := k
        simp only [Option.bind_some, k]
        exact ⟨trivial, l1⟩
theorem rowsQI_eq {s : ByteArray} {p : Nat} (n : Nat) (hp : p ≤ s.size) : match rowsQ s n p with
    | some (x, q) => rowsQI n (stOf s p) = (x, stOf s q) ∧ q ≤ s.size
    | none => (rowsQI n (stOf s p)).2.2 = true := by
  induction n with
  | zero => exact ⟨rfl, hp⟩
  | succ n ih =>
    simp only [rowsQ, rowsQI]
    cases h : rowsQ s n p with
    | none => rw [h] at ih; simp only at ih; simp only [Option.bind_none]; rw [if_pos ih]; exact ih
    | some v =>
      obtain ⟨L, q⟩ := v
      rw [h] at ih
      obtain ⟨ih, l⟩ := ih
      simp only [Option.bind_some, ih]
      rw [if_neg (by simp [stOf])]
      have k := rowQI_eq l
      cases h1 : rowQ1 s q with
      | none => rw [h1] at k; exact k
      | some v1 =>
        obtain ⟨x, q1⟩ := v1
        rw [h1] at k
        obtain ⟨k, l1⟩ := k
        simp only [Option.bind_some, k]
        exact ⟨trivial, l1⟩
theorem rowsTI_bad0 {n : Nat} {x : St} (h : x.2 = true) : (rowsTI n x).2.2 = true := by
  have := rowsTI_bad (n := 0) (m := n) (x := x) h (Nat.zero_le _)
  rw [this]; exact h
theorem rowsQI_bad0 {n : Nat} {x : St} (h : x.2 = true) : (rowsQI n x).2.2 = true := by
  have := rowsQI_bad (n := 0) (m := n) (x := x) h (Nat.zero_le _)
  rw [this]; exact h
attribute [local irreducible] takeI smallI fourI rowsTI rowsQI
set_option maxHeartbeats 4000000 in
/-- The reference's reader reads the same. -/
theorem recI_eq {s : ByteArray} {p : Nat} (hp : p ≤ s.size) : match recR s p with
    | some (x, q) => recI (stOf s p) = (x, stOf s q) ∧ q ≤ s.size
    | none => (recI (stOf s p)).2.2 = true := by
  unfold recR recI
  cases h0 : smallR s p with
  | none =>
    have b0 := smallI_none hp h0
    simp only [Option.bind_none]
    split
    · unfold recI1; exact takeI_bad (takeI_bad (smallI_bad (smallI_bad (smallI_bad (fourI_bad (fourI_bad b0))))))
    · split
      · unfold recI2; exact takeI_bad (smallI_bad (smallI_bad (smallI_bad (fourI_bad (fourI_bad (fourI_bad b0))))))
      · split
        · unfold recI3; exact fourI_bad (fourI_bad b0)
        · split
          · unfold recI6; exact rowsQI_bad0 (smallI_bad (rowsTI_bad0 (smallI_bad (fourI_bad b0))))
          · exact b0
  | some v0 =>
  obtain ⟨v, p1⟩ := v0
  obtain ⟨e0, l0⟩ := smallI_ok hp h0
  simp only [e0, Option.bind_some]
  by_cases c1 : v = 1
  · rw [if_pos c1, if_pos c1]
    unfold recI1
    cases h1 : numR s p1 with
    | none => exact takeI_bad (takeI_bad (smallI_bad (smallI_bad (smallI_bad (fourI_bad (fourI_none l0 h1))))))
    | some z => ?_
    obtain ⟨t, p2⟩ := z
    obtain ⟨e1, l1⟩ := fourI_ok l0 h1
    simp only [e1, Option.bind_some]
    cases h2 : numR s p2 with
    | none => exact takeI_bad (takeI_bad (smallI_bad (smallI_bad (smallI_bad (fourI_none l1 h2)))))
    | some z => ?_
    obtain ⟨pv, p3⟩ := z
    obtain ⟨e2, l2⟩ := fourI_ok l1 h2
    simp only [e2, Option.bind_some]
    cases h3 : smallR s p3 with
    | none => exact takeI_bad (takeI_bad (smallI_bad (smallI_bad (smallI_none l2 h3))))
    | some z => ?_
    obtain ⟨pg, p4⟩ := z
    obtain ⟨e3, l3⟩ := smallI_ok l2 h3
    simp only [e3, Option.bind_some]
    cases h4 : smallR s p4 with
    | none => exact takeI_bad (takeI_bad (smallI_bad (smallI_none l3 h4)))
    | some z => ?_
    obtain ⟨o, p5⟩ := z
    obtain ⟨e4, l4⟩ := smallI_ok l3 h4
    simp only [e4, Option.bind_some]
    cases h5 : smallR s p5 with
    | none => exact takeI_bad (takeI_bad (smallI_none l4 h5))
    | some z => ?_
    obtain ⟨n, p6⟩ := z
    obtain ⟨e5, l5⟩ := smallI_ok l4 h5
    simp only [e5, Option.bind_some]
    cases h6 : takeR s p6 n.toNat with
    | none => exact takeI_bad (takeI_none l5 h6)
    | some z => ?_
    obtain ⟨be, p7⟩ := z
    have e6 := takeI_ok l5 h6
    have l6 := take_le h6
    simp only [e6, Option.bind_some]
    cases h7 : takeR s p7 n.toNat with
    | none => exact takeI_none l6 h7
    | some z => ?_
    obtain ⟨af, p8⟩ := z
    have e7 := takeI_ok l6 h7
    simp only [e7, Option.bind_some]
    exact ⟨trivial, take_le h7⟩
  rw [if_neg c1, if_neg c1]
  by_cases c2 : v = 2
  · rw [if_pos c2, if_pos c2]
    unfold recI2
    cases h1 : numR s p1 with
    | none => exact takeI_bad (smallI_bad (smallI_bad (smallI_bad (fourI_bad (fourI_bad (fourI_none l0 h1))))))
    | some z => ?_
    obtain ⟨t, p2⟩ := z
    obtain ⟨e1, l1⟩ := fourI_ok l0 h1
    simp only [e1, Option.bind_some]
    cases h2 : numR s p2 with
    | none => exact takeI_bad (smallI_bad (smallI_bad (smallI_bad (fourI_bad (fourI_none l1 h2)))))
    | some z => ?_
    obtain ⟨pv, p3⟩ := z
    obtain ⟨e2, l2⟩ := fourI_ok l1 h2
    simp only [e2, Option.bind_some]
    cases h2b : numR s p3 with
    | none => exact takeI_bad (smallI_bad (smallI_bad (smallI_bad (fourI_none l2 h2b))))
    | some z => ?_
    obtain ⟨nx, p3b⟩ := z
    obtain ⟨e2b, l2b⟩ := fourI_ok l2 h2b
    simp only [e2b, Option.bind_some]
    cases h3 : smallR s p3b with
    | none => exact takeI_bad (smallI_bad (smallI_bad (smallI_none l2b h3)))
    | some z => ?_
    obtain ⟨pg, p4⟩ := z
    obtain ⟨e3, l3⟩ := smallI_ok l2b h3
    simp only [e3, Option.bind_some]
    cases h4 : smallR s p4 with
    | none => exact takeI_bad (smallI_bad (smallI_none l3 h4))
    | some z => ?_
    obtain ⟨o, p5⟩ := z
    obtain ⟨e4, l4⟩ := smallI_ok l3 h4
    simp only [e4, Option.bind_some]
    cases h5 : smallR s p5 with
    | none => exact takeI_bad (smallI_none l4 h5)
    | some z => ?_
    obtain ⟨n, p6⟩ := z
    obtain ⟨e5, l5⟩ := smallI_ok l4 h5
    simp only [e5, Option.bind_some]
    cases h7 : takeR s p6 n.toNat with
    | none => exact takeI_none l5 h7
    | some z => ?_
    obtain ⟨af, p8⟩ := z
    have e7 := takeI_ok l5 h7
    simp only [e7, Option.bind_some]
    exact ⟨trivial, take_le h7⟩
  rw [if_neg c2, if_neg c2]
  by_cases c3 : v = 3 ∨ v = 4
  · rw [if_pos c3, if_pos c3]
    unfold recI3
    cases h1 : numR s p1 with
    | none => exact fourI_bad (fourI_none l0 h1)
    | some z => ?_
    obtain ⟨t, p2⟩ := z
    obtain ⟨e1, l1⟩ := fourI_ok l0 h1
    simp only [e1, Option.bind_some]
    cases h2 : numR s p2 with
    | none => exact fourI_none l1 h2
    | some z => ?_
    obtain ⟨pv, p3⟩ := z
    obtain ⟨e2, l2⟩ := fourI_ok l1 h2
    simp only [e2, Option.bind_some]
    exact ⟨trivial, l2⟩
  rw [if_neg c3, if_neg c3]
  by_cases c6 : v = 6
  · rw [if_pos c6, if_pos c6]
    unfold recI6
    cases h1 : numR s p1 with
    | none => exact rowsQI_bad0 (smallI_bad (rowsTI_bad0 (smallI_bad (fourI_none l0 h1))))
    | some z => ?_
    obtain ⟨b, p2⟩ := z
    obtain ⟨e1, l1⟩ := fourI_ok l0 h1
    simp only [e1, Option.bind_some]
    cases h2 : smallR s p2 with
    | none => exact rowsQI_bad0 (smallI_bad (rowsTI_bad0 (smallI_none l1 h2)))
    | some z => ?_
    obtain ⟨n, p3⟩ := z
    obtain ⟨e2, l2⟩ := smallI_ok l1 h2
    simp only [e2, Option.bind_some]
    have k3 := rowsTI_eq n.toNat l2
    cases h3 : rowsT s n.toNat p3 with
    | none => rw [h3] at k3; exact rowsQI_bad0 (smallI_bad k3)
    | some z => ?_
    obtain ⟨tx, p4⟩ := z
    rw [h3] at k3
    obtain ⟨e3, l3⟩ := k3
    simp only [e3, Option.bind_some]
    cases h4 : smallR s p4 with
    | none => exact rowsQI_bad0 (smallI_none l3 h4)
    | some z => ?_
    obtain ⟨m, p5⟩ := z
    obtain ⟨e4, l4⟩ := smallI_ok l3 h4
    simp only [e4, Option.bind_some]
    have k5 := rowsQI_eq m.toNat l4
    cases h5 : rowsQ s m.toNat p5 with
    | none => rw [h5] at k5; exact k5
    | some z => ?_
    obtain ⟨pq, p6⟩ := z
    rw [h5] at k5
    obtain ⟨e5, l5⟩ := k5
    simp only [e5, Option.bind_some]
    exact ⟨trivial, l5⟩
  rw [if_neg c6, if_neg c6]
  exact ⟨rfl, l0⟩
end Go.Proofs.Ytbnglmeljbiglaa.Pt
set_option maxRecDepth 8192
namespace Go.Proofs.Ytbnglmeljbiglaa.Pt
open Go Go.RowKit Go.Proofs.YtbnglmeljbiglaaW.PrintWords Go.Proofs.Ytbnglmeljbiglaa.X4 Go.Proofs.Ytbnglmeljbiglaa.Rp Go.Proofs.Ytbnglmeljbiglaa.Wr
set_option linter.unusedVariables false
set_option linter.unusedSimpArgs false
def B (l : List UInt8) : ByteArray := ⟨l.toArray⟩
theorem B_size (l : List UInt8) : (B l).size = l.length := by simp [B, ByteArray.size]
theorem B_append (a b : List UInt8) : B a ++ B b = B (a ++ b) := by
  apply ByteArray.ext
  apply Array.toList_inj.1
  simp [B, ByteArray.data_append]
theorem B_list (l : List UInt8) : (B l).data.toList = l := by simp [B]
theorem fits {α : Type} {n : Nat} {x y : Option α} (h : n ≤ 1000000) : (if n ≤ 9223372036854775807 then x else y) = x := if_pos (by omega)
theorem rowT_bytes {x : S107} {b : List UInt8} (h : rowT x = some b) : b = four x.f0 ++ (four x.f1 ++ four x.f2) := by
  unfold rowT at h
  obtain ⟨a, c, ha, hc, rfl⟩ := cat_eq h
  obtain ⟨-, -, rfl⟩ := txn_eq2 ha
  obtain ⟨-, -, rfl⟩ := num_eq3 hc
  rfl
theorem rowQ_bytes {x : S109} {b : List UInt8} (h : rowQ x = some b) : b = [b8 x.f0] ++ four x.f1 := by
  unfold rowQ at h
  obtain ⟨a, c, ha, hc, rfl⟩ := cat_eq h
  obtain ⟨-, -, rfl⟩ := small_eq2 ha
  obtain ⟨-, rfl⟩ := num_eq2 hc
  rfl
/-- How long a record's bytes are. -/
theorem rec_len {r : S37} {bs : List UInt8} (h : recP r = some bs) : bs.length = (if r.f0 = 1 then 12 + 2 * r.f8.size else if r.f0 = 2 then 16 + r.f8.size else if r.f0 = 3 ∨ r.f0 = 4 then 9 else if r.f0 = 5 then 1 else 7 + 12 * r.f9.length + 5 * r.f10.length) ∧ bs.length ≤ 112 ∧ 1 ≤ bs.length := by
  obtain ⟨k0, k6, b, hb, rfl⟩ := rec_cut h
  by_cases e1 : r.f0 = 1
  · obtain ⟨⟨c1, c2⟩, c3, ⟨c4, c5⟩, ⟨c6, c7⟩, ⟨c8, c9⟩, c10, rfl⟩ := body1 e1 hb
    rw [if_pos e1]
    simp [four_len, len_eq, c10]
    omega
  rw [if_neg e1]
  by_cases e2 : r.f0 = 2
  · obtain ⟨⟨c1, c2⟩, c3, c3b, ⟨c4, c5⟩, ⟨c6, c7⟩, ⟨c8, c9⟩, rfl⟩ := body2 e2 hb
    rw [if_pos e2]
    simp [four_len, len_eq]
    omega
  rw [if_neg e2]
  by_cases e3 : r.f0 = 3 ∨ r.f0 = 4
  · obtain ⟨⟨c1, c2⟩, c3, rfl⟩ := body3 e3 hb
    rw [if_pos e3]
    simp [four_len]
  rw [if_neg e3]
  by_cases e6 : r.f0 = 6
  · obtain ⟨c1, c2, c3, bt, bq, c4, c5, rfl⟩ := body6 e6 hb
    have lt : bt.length = 12 * r.f9.length := by
      have key : ∀ (l : List S107) (b : List UInt8), joinP (l.map rowT) = some b → b.length = 12 * l.length := fun l => by
        induction l with
        | nil => intro b h; injection h with h; subst h; rfl
        | cons x t ih =>
          intro b h
          rw [List.map_cons, joinP] at h
          obtain ⟨u, v, hu, hv, rfl⟩ := cat_eq h
          rw [List.length_append, ih v hv, rowT_bytes hu]
          simp [four_len]
          omega
      exact key _ _ c4
    have lq : bq.length = 5 * r.f10.length := by
      have key : ∀ (l : List S109) (b : List UInt8), joinP (l.map rowQ) = some b → b.length = 5 * l.length := fun l => by
        induction l with
        | nil => intro b h; injection h with h; subst h; rfl
        | cons x t ih =>
          intro b h
          rw [List.map_cons, joinP] at h
          obtain ⟨u, v, hu, hv, rfl⟩ := cat_eq h
          rw [List.length_append, ih v hv, rowQ_bytes hu]
          simp [four_len]
          omega
      exact key _ _ c5
    rw [if_neg (by omega)]
    simp [four_len, lt, lq]
    omega
  · have hb5 : b = [] ∧ r.f0 = 5 := by
      unfold bodyP at hb
      rw [if_neg e1, if_neg e2, if_neg e3] at hb
      split at hb
      · rename_i c; injection hb with hb; exact ⟨hb.symm, c⟩
      · simp [e6] at hb
    obtain ⟨rfl, e5⟩ := hb5
    rw [if_pos e5]
    simp
/-- What is printed is read as it was, wherever it stands. -/
theorem read_of_at {s : ByteArray} {p : Nat} {r : S37} {bs : List UInt8} (h : recP r = some bs) (ho : ownR r = r) (hs : At s p bs) : readF s (p : Int) = (r, ((p + bs.length : Nat) : Int), 0) := by
  have hp := hs.1
  unfold readF
  rw [if_neg (by omega), Int.toNat_natCast, rec_of_at h ho hs]
  simp only
  rw [if_pos ((print_ok r).2 ((may_iff r).2 ⟨⟨bs, h⟩, ho⟩))]
/-- What is read. -/
theorem read_some {s : ByteArray} {p : Int} (h : (readF s p).2.2 = 0) : ∃ bs q, 0 ≤ p ∧ recP (readF s p).1 = some bs ∧ ownR (readF s p).1 = (readF s p).1 ∧ At s p.toNat bs ∧ q = p.toNat + bs.length ∧ (readF s p).2.1 = (q : Int) ∧ q ≤ s.size ∧ p.toNat < q := by
  unfold readF at h ⊢
  by_cases c : p < 0 ∨ (s.size : Int) < p
  · rw [if_pos c] at h; cases h
  rw [if_neg c] at h ⊢
  cases h1 : recR s p.toNat with
  | none => rw [h1] at h; cases h
  | some z =>
    obtain ⟨x, q⟩ := z
    rw [h1] at h
    simp only at h ⊢
    by_cases m : (printF x).2 = 0
    · rw [if_pos m]
      obtain ⟨⟨b2, hb2⟩, o2⟩ := (may_iff x).1 ((print_ok x).1 m)
      obtain ⟨a2, e2⟩ := rec_to_at h1 hb2
      have := (rec_len hb2).2.2
      have := a2.1
      exact ⟨b2, q, by omega, hb2, o2, a2, e2, rfl, by omega, by omega⟩
    · rw [if_neg m] at h; cases h
theorem print_some {r : S37} {bs : List UInt8} (h : recP r = some bs) (ho : ownR r = r) : printF r = (B bs, 0) := by
  unfold printF
  rw [h]
  simp only
  rw [if_pos ho]
  rfl
theorem print_may {r : S37} : (∃ bs, recP r = some bs ∧ ownR r = r ∧ printF r = (B bs, 0) ∧ mayB r = true) ∨ (printF r = (⟨#[]⟩, 1) ∧ mayB r = false) := by
  by_cases m : mayB r = true
  · obtain ⟨⟨bs, h⟩, ho⟩ := (may_iff r).1 m
    exact .inl ⟨bs, h, ho, print_some h ho, m⟩
  · refine .inr ⟨?_, by simpa using m⟩
    unfold printF
    cases h : recP r with
    | none => rfl
    | some bs =>
      simp only
      rw [if_neg fun ho => m ((may_iff r).2 ⟨⟨bs, h⟩, ho⟩)]
theorem rows_le {r : S37} (h : mayB r = true) : r.f9.length ≤ 8 ∧ r.f10.length ≤ 8 ∧ r.f8.size ≤ 300 := by
  obtain ⟨⟨bs, hb⟩, ho⟩ := (may_iff r).1 h
  have ow := own_small hb
  rw [ho] at ow
  have ln := rec_len hb
  refine ⟨by omega, by omega, ?_⟩
  by_cases e1 : r.f0 = 1
  · rw [if_pos e1] at ln; omega
  by_cases e2 : r.f0 = 2
  · rw [if_neg e1, if_pos e2] at ln; omega
  have : (ownR r).f8 = ⟨#[]⟩ := by
    unfold ownR
    rw [if_neg e1, if_neg e2]
    split
    · rfl
    · split <;> rfl
  rw [ho] at this
  rw [this]
  exact Nat.zero_le _
end Go.Proofs.Ytbnglmeljbiglaa.Pt
set_option maxRecDepth 8192
namespace Go.Proofs.Ytbnglmeljbiglaa.X4
open Go Go.RowKit Go.Proofs.YtbnglmeljbiglaaW.PrintWords Go.Proofs.Ytbnglmeljbiglaa.Rp
set_option linter.unusedVariables false
def careenref04_Same.f (a0_0 : Int) (a0_1 : Int) (a0_2 : Int) (a0_3 : Int) (a0_4 : Int) (a0_5 : Int) (a0_6 : Int) (a0_7 : ByteArray) (a0_8 : ByteArray) (l0_9 : List S107) (l0_10 : List S109) (a1_0 : Int) (a1_1 : Int) (a1_2 : Int) (a1_3 : Int) (a1_4 : Int) (a1_5 : Int) (a1_6 : Int) (a1_7 : ByteArray) (a1_8 : ByteArray) (l1_9 : List S107) (l1_10 : List S109) : Option Bool := if l0_9.length ≤ 1000000 ∧ l0_10.length ≤ 1000000 then some (decide ((⟨a0_0, a0_1, a0_2, a0_3, a0_4, a0_5, a0_6, a0_7, a0_8, l0_9, l0_10⟩ : S37) = (⟨a1_0, a1_1, a1_2, a1_3, a1_4, a1_5, a1_6, a1_7, a1_8, l1_9, l1_10⟩ : S37))) else none
theorem careenref04_Same.calls (a0_0 : Int) (a0_1 : Int) (a0_2 : Int) (a0_3 : Int) (a0_4 : Int) (a0_5 : Int) (a0_6 : Int) (a0_7 : ByteArray) (a0_8 : ByteArray) (A0_9 : Option Addr) (c0_9 : Nat) (l0_9 : List S107) (A0_10 : Option Addr) (c0_10 : Nat) (l0_10 : List S109) (a1_0 : Int) (a1_1 : Int) (a1_2 : Int) (a1_3 : Int) (a1_4 : Int) (a1_5 : Int) (a1_6 : Int) (a1_7 : ByteArray) (a1_8 : ByteArray) (A1_9 : Option Addr) (c1_9 : Nat) (l1_9 : List S107) (A1_10 : Option Addr) (c1_10 : Nat) (l1_10 : List S109) (r : Bool) (w : World) (hr0_9 : Kd.C k107 w A0_9 l0_9.length l0_9) (hc0_9 : l0_9.length ≤ c0_9) (hr0_10 : Kd.C k109 w A0_10 l0_10.length l0_10) (hc0_10 : l0_10.length ≤ c0_10) (hr1_9 : Kd.C k107 w A1_9 l1_9.length l1_9) (hc1_9 : l1_9.length ≤ c1_9) (hr1_10 : Kd.C k109 w A1_10 l1_10.length l1_10) (hc1_10 : l1_10.length ≤ c1_10) (h : careenref04_Same.f a0_0 a0_1 a0_2 a0_3 a0_4 a0_5 a0_6 a0_7 a0_8 l0_9 l0_10 a1_0 a1_1 a1_2 a1_3 a1_4 a1_5 a1_6 a1_7 a1_8 l1_9 l1_10 = some r) :
    Calls Try.prog 28 #[.agg #[.int .i64 a0_0, .int .i64 a0_1, .int .i64 a0_2, .int .i64 a0_3, .int .i64 a0_4, .int .i64 a0_5, .int .i64 a0_6, .string a0_7, .string a0_8, .slice A0_9 l0_9.length c0_9, .slice A0_10 l0_10.length c0_10], .agg #[.int .i64 a1_0, .int .i64 a1_1, .int .i64 a1_2, .int .i64 a1_3, .int .i64 a1_4, .int .i64 a1_5, .int .i64 a1_6, .string a1_7, .string a1_8, .slice A1_9 l1_9.length c1_9, .slice A1_10 l1_10.length c1_10]] w fun e w' => e = .returned (.bool r) ∧ Below w.heap.size w w' := by
  unfold careenref04_Same.f at h
  by_cases c : l0_9.length ≤ 1000000 ∧ l0_10.length ≤ 1000000
  · rw [if_pos c] at h
    have k := Sa.rsame_calls (⟨a0_0, a0_1, a0_2, a0_3, a0_4, a0_5, a0_6, a0_7, a0_8, l0_9, l0_10⟩ : S37) (⟨a1_0, a1_1, a1_2, a1_3, a1_4, a1_5, a1_6, a1_7, a1_8, l1_9, l1_10⟩ : S37) A0_9 c0_9 A0_10 c0_10 A1_9 c1_9 A1_10 c1_10 w hr0_9 hr0_10 hr1_9 hr1_10 c.1 c.2
    rw [Option.some.inj h] at k
    exact k
  · rw [if_neg c] at h; cases h
def record_Read.f (a0 : ByteArray) (a1 : Int) : Option (Int × Int × Int × Int × Int × Int × Int × ByteArray × ByteArray × List S107 × List S109 × Int × Int) := if a0.size ≤ 1000000 then some ((Wr.readF a0 a1).1.f0, (Wr.readF a0 a1).1.f1, (Wr.readF a0 a1).1.f2, (Wr.readF a0 a1).1.f3, (Wr.readF a0 a1).1.f4, (Wr.readF a0 a1).1.f5, (Wr.readF a0 a1).1.f6, (Wr.readF a0 a1).1.f7, (Wr.readF a0 a1).1.f8, (Wr.readF a0 a1).1.f9, (Wr.readF a0 a1).1.f10, (Wr.readF a0 a1).2.1, (Wr.readF a0 a1).2.2) else none
theorem record_Read.calls (a0 : ByteArray) (a1 : Int) (r1 : Int) (r2 : Int) (r3 : Int) (r4 : Int) (r5 : Int) (r6 : Int) (r7 : Int) (r8 : ByteArray) (r9 : ByteArray) (r10 : List S107) (r11 : List S109) (r12 : Int) (r13 : Int) (w : World) (h : record_Read.f a0 a1 = some (r1, r2, r3, r4, r5, r6, r7, r8, r9, r10, r11, r12, r13)) :
    Calls Try.prog 88 #[.string a0, .int .i64 a1] w fun e w' => ∃ v9_ v10_ : Value, e = .returned (.tuple #[.agg #[.int .i64 r1, .int .i64 r2, .int .i64 r3, .int .i64 r4, .int .i64 r5, .int .i64 r6, .int .i64 r7, .string r8, .string r9, v9_, v10_], .int .i64 r12, .int .i64 r13]) ∧ Kd.R k107 107 w' w.heap.size (fun _ => True) v9_ r10 ∧ Kd.R k109 109 w' w.heap.size (fun _ => True) v10_ r11 ∧ Below w.heap.size w w' := by
  unfold record_Read.f at h
  by_cases c : a0.size ≤ 1000000
  · rw [if_pos c] at h
    injection h with h
    simp only [Prod.mk.injEq] at h
    obtain ⟨rfl, rfl, rfl, rfl, rfl, rfl, rfl, rfl, rfl, rfl, rfl, rfl, rfl⟩ := h
    exact Wr.read_calls a0 a1 w c
  · rw [if_neg c] at h; cases h
end Go.Proofs.Ytbnglmeljbiglaa.X4
set_option maxRecDepth 8192
namespace Go.Proofs.Ytbnglmeljbiglaa.Pt
open Go Go.RowKit Go.Proofs.YtbnglmeljbiglaaW.PrintWords Go.Proofs.Ytbnglmeljbiglaa.X4 Go.Proofs.Ytbnglmeljbiglaa.Rp Go.Proofs.Ytbnglmeljbiglaa.Wr
set_option linter.unusedVariables false
set_option linter.unusedSimpArgs false
theorem rsame_f {a b : S37} (h : a.f9.length ≤ 1000000) (h2 : a.f10.length ≤ 1000000) : careenref04_Same.f a.f0 a.f1 a.f2 a.f3 a.f4 a.f5 a.f6 a.f7 a.f8 a.f9 a.f10 b.f0 b.f1 b.f2 b.f3 b.f4 b.f5 b.f6 b.f7 b.f8 b.f9 b.f10 = some (decide (a = b)) := by
  unfold careenref04_Same.f
  rw [if_pos ⟨h, h2⟩]
theorem read_f {s : ByteArray} {p : Int} (h : s.size ≤ 1000000) : record_Read.f s p = some ((readF s p).1.f0, (readF s p).1.f1, (readF s p).1.f2, (readF s p).1.f3, (readF s p).1.f4, (readF s p).1.f5, (readF s p).1.f6, (readF s p).1.f7, (readF s p).1.f8, (readF s p).1.f9, (readF s p).1.f10, (readF s p).2.1, (readF s p).2.2) := by
  unfold record_Read.f
  rw [if_pos h]
end Go.Proofs.Ytbnglmeljbiglaa.Pt
-- Written by this session's xprint.py (the kit's print, with contracts proved by hand).
namespace Go.Proofs.Ytbnglmeljbiglaa.X4b
open Go.Proofs.Ytbnglmeljbiglaa.X4 Go.RowKit Go.Proofs.YtbnglmeljbiglaaW.PrintWords Go.Proofs.YtbnglmeljbiglaaW.PrintLast Go.Proofs.YtbnglmeljbiglaaW.PrintMore
attribute [local go_sem] max2_int min2_int max_two min_two max_three min_three max_four min_four   -- for this text's walks alone
set_option linter.unusedVariables false
set_option linter.unusedSimpArgs false
theorem info44 : (Try.prog.info? 44).map (fun i => (i.zero, i.size, i.bytes)) = some (some (.agg #[(.int .i64 0), (.int .i64 0), (.int .i64 0), (.int .i64 0), (.int .i64 0), (.int .i64 0), (.int .i64 0), (.int .i64 0), (.string ⟨#[]⟩), (.string ⟨#[]⟩), (.slice none 0 0), (.slice none 0 0)]), 12, 144) := by kernel_rfl
end Go.Proofs.Ytbnglmeljbiglaa.X4b
-- Written by this session's xprint.py (the kit's print, with contracts proved by hand).
namespace Go.Proofs.Ytbnglmeljbiglaa.X4b
open Go.Proofs.Ytbnglmeljbiglaa.X4 Go.RowKit Go.Proofs.YtbnglmeljbiglaaW.PrintWords Go.Proofs.YtbnglmeljbiglaaW.PrintLast Go.Proofs.YtbnglmeljbiglaaW.PrintMore
attribute [local go_sem] max2_int min2_int max_two min_two max_three min_three max_four min_four   -- for this text's walks alone
set_option linter.unusedVariables false
set_option linter.unusedSimpArgs false
theorem eqA107 (d : Nat) (w : World) (x0 y0 : Int) (x1 y1 : Int) (x2 y2 : Int) :
    (Op.equalIn (d + 2) 107 (.agg #[.int .i64 x0, .int .i64 x1, .int .i64 x2]) (.agg #[.int .i64 y0, .int .i64 y1, .int .i64 y2])).run Try.prog w = .ok (x0 == y0 && (x1 == y1 && (x2 == y2))) w := by
  refine eqA_of Try.underlying107 (by kernel_rfl) ?_
  refine eqf_cons (by rfl) (by go_simp; rfl) (by go_simp; rfl) (by go_simp) ?_
  refine eqf_cons (by rfl) (by go_simp; rfl) (by go_simp; rfl) (by go_simp) ?_
  exact eqf_last (by rfl) (by go_simp; rfl) (by go_simp; rfl) (by go_simp)
end Go.Proofs.Ytbnglmeljbiglaa.X4b
-- Written by this session's xprint.py (the kit's print, with contracts proved by hand).
namespace Go.Proofs.Ytbnglmeljbiglaa.X4b
open Go.Proofs.Ytbnglmeljbiglaa.X4 Go.RowKit Go.Proofs.YtbnglmeljbiglaaW.PrintWords Go.Proofs.YtbnglmeljbiglaaW.PrintLast Go.Proofs.YtbnglmeljbiglaaW.PrintMore
attribute [local go_sem] max2_int min2_int max_two min_two max_three min_three max_four min_four   -- for this text's walks alone
set_option linter.unusedVariables false
set_option linter.unusedSimpArgs false
theorem eqA109 (d : Nat) (w : World) (x0 y0 : Int) (x1 y1 : Int) :
    (Op.equalIn (d + 2) 109 (.agg #[.int .i64 x0, .int .i64 x1]) (.agg #[.int .i64 y0, .int .i64 y1])).run Try.prog w = .ok (x0 == y0 && (x1 == y1)) w := by
  refine eqA_of Try.underlying109 (by kernel_rfl) ?_
  refine eqf_cons (by rfl) (by go_simp; rfl) (by go_simp; rfl) (by go_simp) ?_
  exact eqf_last (by rfl) (by go_simp; rfl) (by go_simp; rfl) (by go_simp)
end Go.Proofs.Ytbnglmeljbiglaa.X4b
