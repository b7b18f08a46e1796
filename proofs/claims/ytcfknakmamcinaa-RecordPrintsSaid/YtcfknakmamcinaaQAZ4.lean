import Derived.Test.YtcfknakmamcinaaQAZ0
import Derived.Test.YtcfknakmamcinaaQAZ1
import Derived.Test.YtcfknakmamcinaaQAZ2
import Derived.Test.YtcfknakmamcinaaQAZ3
namespace Go.Proofs.Ytcfknakmamcinaa.Rp
open Go Go.RowKit Go.Proofs.YtcfknakmamcinaaW.PrintWords Go.Proofs.Ytcfknakmamcinaa.X4
set_option linter.unusedSimpArgs false
set_option linter.unusedVariables false
theorem rnum_l0 (x : List Int) (hm : x.length ≤ 1000000) : ∀ (m k j : Nat), j + m = x.length → m < k → careenref04_num.l0 k x (j : Int) = some ((x.drop j).all isNum) := by
  intro m
  induction m with
  | zero =>
    intro k j hj hk
    obtain ⟨k, rfl⟩ : ∃ q, k = q + 1 := ⟨k - 1, by omega⟩
    unfold careenref04_num.l0
    rw [if_neg (by omega), List.drop_of_length_le (by omega)]
    rfl
  | succ m ih =>
    intro k j hj hk
    obtain ⟨k, rfl⟩ : ∃ q, k = q + 1 := ⟨k - 1, by omega⟩
    unfold careenref04_num.l0
    rw [if_pos (by omega), if_pos (by omega)]
    have hx : x.drop j = rd x (j : Int) :: x.drop (j + 1) := by
      rw [List.drop_eq_getElem_cons (by omega)]
      unfold rd
      rw [Int.toNat_natCast, List.getD_eq_getElem?_getD, List.getElem?_eq_getElem (by omega)]
      rfl
    have hw : wrap64 ((j : Int) + 1) = ((j + 1 : Nat) : Int) := by unfold wrap64; omega
    rw [hx, hw, ih k (j + 1) (by omega) (by omega)]
    generalize rd x (j : Int) = a
    by_cases h0 : a < 0
    · rw [if_pos h0, List.all_cons, show isNum a = false by unfold isNum; simp; omega]; rfl
    · rw [if_neg h0]
      by_cases h1 : a > 2147483647
      · rw [if_pos h1, List.all_cons, show isNum a = false by unfold isNum; simp; omega]; rfl
      · rw [if_neg h1, List.all_cons, show isNum a = true by unfold isNum; simp; omega]; rfl
theorem rnum_eq (x : List Int) (k : Nat) (hm : x.length ≤ 1000000) (hk : x.length < k) : careenref04_num.f k x = some (x.all isNum) := by
  unfold careenref04_num.f
  have := rnum_l0 x hm x.length k 0 (by omega) hk
  simpa using this
def spotB (r : S25) : Bool := decide (0 ≤ r.f2 ∧ r.f2 ≤ 7 ∧ 0 ≤ r.f3 ∧ r.f3 ≤ 220 ∧ 1 ≤ r.f8.size ∧ r.f8.size ≤ 16 ∧ r.f3 + r.f8.size ≤ 220)
theorem rspot_eq (r : S25) : careenref04_spot.f r.f0 r.f1 r.f2 r.f3 r.f4 r.f5 r.f6 r.f7 r.f8 r.f9 r.f10 = some (spotB r) := by
  unfold careenref04_spot.f spotB
  by_cases h1 : r.f2 ≥ 0
  · by_cases h2 : r.f2 ≤ 7
    · by_cases h3 : r.f3 ≥ 0
      · by_cases h4 : r.f3 ≤ 220
        · by_cases h5 : (r.f8.size : Int) ≥ 1
          · by_cases h6 : (r.f8.size : Int) ≤ 16
            · rw [if_pos h1, if_pos h2, if_pos h3, if_pos h4, if_pos h5, if_pos h6, show wrap64 (r.f3 + (r.f8.size : Int)) = r.f3 + (r.f8.size : Int) by unfold wrap64; omega]
              congr 1
              rw [decide_eq_decide]
              omega
            all_goals (rw [if_pos h1, if_pos h2, if_pos h3, if_pos h4, if_pos h5, if_neg h6]; congr 1; symm; rw [decide_eq_false_iff_not]; omega)
          all_goals (rw [if_pos h1, if_pos h2, if_pos h3, if_pos h4, if_neg h5]; congr 1; symm; rw [decide_eq_false_iff_not]; omega)
        all_goals (rw [if_pos h1, if_pos h2, if_pos h3, if_neg h4]; congr 1; symm; rw [decide_eq_false_iff_not]; omega)
      all_goals (rw [if_pos h1, if_pos h2, if_neg h3]; congr 1; symm; rw [decide_eq_false_iff_not]; omega)
    all_goals (rw [if_pos h1, if_neg h2]; congr 1; symm; rw [decide_eq_false_iff_not]; omega)
  all_goals (rw [if_neg h1]; congr 1; symm; rw [decide_eq_false_iff_not]; omega)
def rowTB (x : S66) : Bool := decide (1 ≤ x.f0) && [x.f0, x.f1, x.f2].all isNum
def rowQB (x : S68) : Bool := decide (0 ≤ x.f0 ∧ x.f0 ≤ 7) && isNum x.f1
def mayB (r : S25) : Bool :=
  if r.f0 = 1 then decide (1 ≤ r.f1) && ([r.f1, r.f4].all isNum && (spotB r && (decide (r.f7.size = r.f8.size) && decide (r = ⟨1, r.f1, r.f2, r.f3, r.f4, 0, 0, r.f7, r.f8, [], []⟩))))
  else if r.f0 = 2 then decide (1 ≤ r.f1) && ([r.f1, r.f4, r.f5].all isNum && (spotB r && decide (r = ⟨2, r.f1, r.f2, r.f3, r.f4, r.f5, 0, ⟨#[]⟩, r.f8, [], []⟩)))
  else if r.f0 = 3 ∨ r.f0 = 4 then decide (1 ≤ r.f1) && ([r.f1, r.f4].all isNum && decide (r = ⟨r.f0, r.f1, 0, 0, r.f4, 0, 0, ⟨#[]⟩, ⟨#[]⟩, [], []⟩))
  else if r.f0 = 5 then decide (r = ⟨5, 0, 0, 0, 0, 0, 0, ⟨#[]⟩, ⟨#[]⟩, [], []⟩)
  else if r.f0 = 6 then [r.f6].all isNum && (decide (r.f9.length ≤ 4) && (decide (r.f10.length ≤ 8) && (decide (r = ⟨6, 0, 0, 0, 0, 0, r.f6, ⟨#[]⟩, ⟨#[]⟩, r.f9, r.f10⟩) && (r.f9.all rowTB && r.f10.all rowQB))))
  else false
end Go.Proofs.Ytcfknakmamcinaa.Rp
namespace Go.Proofs.Ytcfknakmamcinaa.Rp
open Go Go.RowKit Go.Proofs.YtcfknakmamcinaaW.PrintWords Go.Proofs.Ytcfknakmamcinaa.X4
set_option linter.unusedSimpArgs false
set_option linter.unusedVariables false
abbrev St := ByteArray × Bool
def takeI (x : St) (n : Nat) : ByteArray × St := if x.2 = true ∨ x.1.size < n then (strOfNums (List.replicate n 0), x.1, true) else (x.1.extract 0 n, x.1.extract n x.1.size, false)
def smallI (x : St) : Int × St := (bt (takeI x 1).1 0, (takeI x 1).2)
def numv (b : ByteArray) : Int := ((bt b 0 * 256 + bt b 1) * 256 + bt b 2) * 256 + bt b 3
def fourI (x : St) : Int × St := (numv (takeI x 4).1, (takeI x 4).2)
def rowTI (x : St) : S66 × St := (⟨(fourI x).1, (fourI (fourI x).2).1, (fourI (fourI (fourI x).2).2).1⟩, (fourI (fourI (fourI x).2).2).2)
def rowQI (x : St) : S68 × St := (⟨(smallI x).1, (fourI (smallI x).2).1⟩, (fourI (smallI x).2).2)
def rowsTI : Nat → St → List S66 × St
  | 0, x => ([], x)
  | n + 1, x => if (rowsTI n x).2.2 = true then rowsTI n x else ((rowsTI n x).1 ++ [(rowTI (rowsTI n x).2).1], (rowTI (rowsTI n x).2).2)
def rowsQI : Nat → St → List S68 × St
  | 0, x => ([], x)
  | n + 1, x => if (rowsQI n x).2.2 = true then rowsQI n x else ((rowsQI n x).1 ++ [(rowQI (rowsQI n x).2).1], (rowQI (rowsQI n x).2).2)
theorem rowsTI_bad {n m : Nat} {x : St} (h : (rowsTI n x).2.2 = true) (hm : n ≤ m) : rowsTI m x = rowsTI n x := by
  induction m with
  | zero => rw [show n = 0 by omega]
  | succ m ih =>
    by_cases e : n = m + 1
    · rw [e]
    · have h2 := ih (by omega)
      simp only [rowsTI]
      rw [h2, if_pos h]
theorem rowsQI_bad {n m : Nat} {x : St} (h : (rowsQI n x).2.2 = true) (hm : n ≤ m) : rowsQI m x = rowsQI n x := by
  induction m with
  | zero => rw [show n = 0 by omega]
  | succ m ih =>
    by_cases e : n = m + 1
    · rw [e]
    · have h2 := ih (by omega)
      simp only [rowsQI]
      rw [h2, if_pos h]
def recI1 (x : St) : S25 × St :=
  let t := fourI x; let v := fourI t.2; let pg := smallI v.2; let o := smallI pg.2; let n := smallI o.2; let b := takeI n.2 n.1.toNat; let f := takeI b.2 n.1.toNat
  (⟨1, t.1, pg.1, o.1, v.1, 0, 0, b.1, f.1, [], []⟩, f.2)
def recI2 (x : St) : S25 × St :=
  let t := fourI x; let v := fourI t.2; let z := fourI v.2; let pg := smallI z.2; let o := smallI pg.2; let n := smallI o.2; let f := takeI n.2 n.1.toNat
  (⟨2, t.1, pg.1, o.1, v.1, z.1, 0, ⟨#[]⟩, f.1, [], []⟩, f.2)
def recI3 (k : Int) (x : St) : S25 × St :=
  let t := fourI x; let v := fourI t.2
  (⟨k, t.1, 0, 0, v.1, 0, 0, ⟨#[]⟩, ⟨#[]⟩, [], []⟩, v.2)
def recI6 (x : St) : S25 × St :=
  let b := fourI x; let n := smallI b.2; let t := rowsTI n.1.toNat n.2; let m := smallI t.2; let q := rowsQI m.1.toNat m.2
  (⟨6, 0, 0, 0, 0, 0, b.1, ⟨#[]⟩, ⟨#[]⟩, t.1, q.1⟩, q.2)
def recI (x : St) : S25 × St :=
  if (smallI x).1 = 1 then recI1 (smallI x).2 else if (smallI x).1 = 2 then recI2 (smallI x).2 else if (smallI x).1 = 3 ∨ (smallI x).1 = 4 then recI3 (smallI x).1 (smallI x).2
  else if (smallI x).1 = 6 then recI6 (smallI x).2 else (⟨(smallI x).1, 0, 0, 0, 0, 0, 0, ⟨#[]⟩, ⟨#[]⟩, [], []⟩, (smallI x).2)
def zR : S25 := ⟨0, 0, 0, 0, 0, 0, 0, ⟨#[]⟩, ⟨#[]⟩, [], []⟩
end Go.Proofs.Ytcfknakmamcinaa.Rp
