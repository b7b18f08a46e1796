import Derived.Test.YtcelfhoomhmioaaPEZ0
import Derived.Test.YtcelfhoomhmioaaPEZ1
import Derived.Test.YtcelfhoomhmioaaPEZ2
import Derived.Test.YtcelfhoomhmioaaPEZ3
import Derived.Test.YtcelfhoomhmioaaPEZ7
set_option maxRecDepth 8192
namespace Go.Proofs.Ytcelfhoomhmioaa.Rp
open Go Go.RowKit Go.Proofs.YtcelfhoomhmioaaW.PrintWords Go.Proofs.Ytcelfhoomhmioaa.X4
set_option linter.unusedSimpArgs false
set_option linter.unusedVariables false
def spotB (r : S39) : Bool := decide (0 ≤ r.f2 ∧ r.f2 ≤ 7 ∧ 0 ≤ r.f3 ∧ r.f3 ≤ 220 ∧ 1 ≤ r.f8.size ∧ r.f8.size ≤ 16 ∧ r.f3 + r.f8.size ≤ 220)
def rowTB (x : S134) : Bool := decide (1 ≤ x.f0) && [x.f0, x.f1, x.f2].all isNum
def rowQB (x : S70) : Bool := decide (0 ≤ x.f0 ∧ x.f0 ≤ 7) && isNum x.f1
def mayB (r : S39) : Bool :=
  if r.f0 = 1 then decide (1 ≤ r.f1) && ([r.f1, r.f4].all isNum && (spotB r && (decide (r.f7.size = r.f8.size) && decide (r = ⟨1, r.f1, r.f2, r.f3, r.f4, 0, 0, r.f7, r.f8, [], []⟩))))
  else if r.f0 = 2 then decide (1 ≤ r.f1) && ([r.f1, r.f4, r.f5].all isNum && (spotB r && decide (r = ⟨2, r.f1, r.f2, r.f3, r.f4, r.f5, 0, ⟨#[]⟩, r.f8, [], []⟩)))
  else if r.f0 = 3 ∨ r.f0 = 4 then decide (1 ≤ r.f1) && ([r.f1, r.f4].all isNum && decide (r = ⟨r.f0, r.f1, 0, 0, r.f4, 0, 0, ⟨#[]⟩, ⟨#[]⟩, [], []⟩))
  else if r.f0 = 5 then decide (r = ⟨5, 0, 0, 0, 0, 0, 0, ⟨#[]⟩, ⟨#[]⟩, [], []⟩)
  else if r.f0 = 6 then [r.f6].all isNum && (decide (r.f9.length ≤ 4) && (decide (r.f10.length ≤ 8) && (decide (r = ⟨6, 0, 0, 0, 0, 0, r.f6, ⟨#[]⟩, ⟨#[]⟩, r.f9, r.f10⟩) && (r.f9.all rowTB && r.f10.all rowQB))))
  else false
end Go.Proofs.Ytcelfhoomhmioaa.Rp
set_option maxRecDepth 8192
namespace Go.Proofs.Ytcelfhoomhmioaa.Pt
open Go Go.RowKit Go.Proofs.YtcelfhoomhmioaaW.PrintWords Go.Proofs.Ytcelfhoomhmioaa.X4 Go.Proofs.Ytcelfhoomhmioaa.Rp Go.Proofs.Ytcelfhoomhmioaa.Wr
set_option linter.unusedVariables false
set_option linter.unusedSimpArgs false
theorem cat_eq {a b : Option (List UInt8)} {c : List UInt8} (h : cat a b = some c) : ∃ x y, a = some x ∧ b = some y ∧ c = x ++ y := by
  cases a with
  | none => cases h
  | some x =>
    cases b with
    | none => cases h
    | some y => exact ⟨x, y, rfl, rfl, (Option.some.inj h).symm⟩
theorem small_eq2 {n m : Int} {bs : List UInt8} (h : smallP n m = some bs) : 0 ≤ n ∧ n ≤ m ∧ bs = [b8 n] := by
  unfold smallP at h
  split at h
  · rename_i c; exact ⟨c.1, c.2, (Option.some.inj h).symm⟩
  · cases h
theorem num_eq2 {n : Int} {bs : List UInt8} (h : numP [n] = some bs) : isNum n = true ∧ bs = four n := by
  unfold numP at h
  split at h
  · rename_i c
    simp at c
    exact ⟨c, by simpa using (Option.some.inj h).symm⟩
  · cases h
theorem num_eq3 {n m : Int} {bs : List UInt8} (h : numP [n, m] = some bs) : isNum n = true ∧ isNum m = true ∧ bs = four n ++ four m := by
  unfold numP at h
  split at h
  · rename_i c
    simp at c
    exact ⟨c.1, c.2, by simpa using (Option.some.inj h).symm⟩
  · cases h
theorem txn_eq2 {n : Int} {bs : List UInt8} (h : txnP n = some bs) : 1 ≤ n ∧ isNum n = true ∧ bs = four n := by
  unfold txnP at h
  split at h
  · rename_i c; exact ⟨c, num_eq2 h⟩
  · cases h
theorem len_eq (s : ByteArray) : s.data.toList.length = s.size := by rw [Array.length_toList]; rfl
theorem four_len (n : Int) : (four n).length = 4 := rfl
end Go.Proofs.Ytcelfhoomhmioaa.Pt
set_option maxRecDepth 8192
namespace Go.Proofs.Ytcelfhoomhmioaa.Pt
open Go Go.RowKit Go.Proofs.YtcelfhoomhmioaaW.PrintWords Go.Proofs.Ytcelfhoomhmioaa.X4 Go.Proofs.Ytcelfhoomhmioaa.Rp Go.Proofs.Ytcelfhoomhmioaa.Wr
set_option linter.unusedVariables false
set_option linter.unusedSimpArgs false
theorem rec_cut {r : S39} {bs : List UInt8} (h : recP r = some bs) : 0 ≤ r.f0 ∧ r.f0 ≤ 6 ∧ ∃ b, bodyP r = some b ∧ bs = b8 r.f0 :: b := by
  unfold recP at h
  obtain ⟨x, y, hx, hy, rfl⟩ := cat_eq h
  obtain ⟨h1, h2, rfl⟩ := small_eq2 hx
  exact ⟨h1, h2, y, hy, rfl⟩
theorem body1 {r : S39} {b : List UInt8} (e : r.f0 = 1) (h : bodyP r = some b) : (1 ≤ r.f1 ∧ isNum r.f1 = true) ∧ isNum r.f4 = true ∧ (0 ≤ r.f2 ∧ r.f2 ≤ 7) ∧ (0 ≤ r.f3 ∧ r.f3 ≤ 220 - min (r.f8.size : Int) 220) ∧ (1 ≤ (r.f8.size : Int) ∧ (r.f8.size : Int) ≤ 16) ∧ r.f7.size = r.f8.size ∧ b = four r.f1 ++ (four r.f4 ++ (([b8 r.f2] ++ ([b8 r.f3] ++ [b8 (r.f8.size : Int)])) ++ (r.f7.data.toList ++ r.f8.data.toList))) := by
  unfold bodyP at h
  rw [if_pos e] at h
  obtain ⟨x1, y1, h1, k1, rfl⟩ := cat_eq h
  obtain ⟨x2, y2, h2, k2, rfl⟩ := cat_eq k1
  obtain ⟨x3, y3, h3, k3, rfl⟩ := cat_eq k2
  obtain ⟨t1, t2, rfl⟩ := txn_eq2 h1
  obtain ⟨t3, rfl⟩ := num_eq2 h2
  split at k3
  · rename_i c
    injection k3 with k3
    subst k3
    unfold placeP at h3
    split at h3
    · rename_i c1
      obtain ⟨x4, y4, h4, k4, rfl⟩ := cat_eq h3
      obtain ⟨x5, y5, h5, k5, rfl⟩ := cat_eq k4
      obtain ⟨q1, q2, rfl⟩ := small_eq2 h4
      obtain ⟨q3, q4, rfl⟩ := small_eq2 h5
      obtain ⟨q5, q6, rfl⟩ := small_eq2 k5
      exact ⟨⟨t1, t2⟩, t3, ⟨q1, q2⟩, ⟨q3, q4⟩, ⟨c1, q6⟩, c, rfl⟩
    · cases h3
  · cases k3
theorem body2 {r : S39} {b : List UInt8} (e : r.f0 = 2) (h : bodyP r = some b) : (1 ≤ r.f1 ∧ isNum r.f1 = true) ∧ isNum r.f4 = true ∧ isNum r.f5 = true ∧ (0 ≤ r.f2 ∧ r.f2 ≤ 7) ∧ (0 ≤ r.f3 ∧ r.f3 ≤ 220 - min (r.f8.size : Int) 220) ∧ (1 ≤ (r.f8.size : Int) ∧ (r.f8.size : Int) ≤ 16) ∧ b = four r.f1 ++ ((four r.f4 ++ four r.f5) ++ (([b8 r.f2] ++ ([b8 r.f3] ++ [b8 (r.f8.size : Int)])) ++ r.f8.data.toList)) := by
  unfold bodyP at h
  rw [if_neg (by omega), if_pos e] at h
  obtain ⟨x1, y1, h1, k1, rfl⟩ := cat_eq h
  obtain ⟨x2, y2, h2, k2, rfl⟩ := cat_eq k1
  obtain ⟨x3, y3, h3, k3, rfl⟩ := cat_eq k2
  obtain ⟨t1, t2, rfl⟩ := txn_eq2 h1
  obtain ⟨t3, t4, rfl⟩ := num_eq3 h2
  injection k3 with k3
  subst k3
  unfold placeP at h3
  split at h3
  · rename_i c1
    obtain ⟨x4, y4, h4, k4, rfl⟩ := cat_eq h3
    obtain ⟨x5, y5, h5, k5, rfl⟩ := cat_eq k4
    obtain ⟨q1, q2, rfl⟩ := small_eq2 h4
    obtain ⟨q3, q4, rfl⟩ := small_eq2 h5
    obtain ⟨q5, q6, rfl⟩ := small_eq2 k5
    exact ⟨⟨t1, t2⟩, t3, t4, ⟨q1, q2⟩, ⟨q3, q4⟩, ⟨c1, q6⟩, rfl⟩
  · cases h3
theorem body3 {r : S39} {b : List UInt8} (e : r.f0 = 3 ∨ r.f0 = 4) (h : bodyP r = some b) : (1 ≤ r.f1 ∧ isNum r.f1 = true) ∧ isNum r.f4 = true ∧ b = four r.f1 ++ four r.f4 := by
  unfold bodyP at h
  rw [if_neg (by omega), if_neg (by omega), if_pos e] at h
  obtain ⟨x1, y1, h1, k1, rfl⟩ := cat_eq h
  obtain ⟨t1, t2, rfl⟩ := txn_eq2 h1
  obtain ⟨t3, rfl⟩ := num_eq2 k1
  exact ⟨⟨t1, t2⟩, t3, rfl⟩
theorem body6 {r : S39} {b : List UInt8} (e : r.f0 = 6) (h : bodyP r = some b) : isNum r.f6 = true ∧ r.f9.length ≤ 4 ∧ r.f10.length ≤ 8 ∧ ∃ bt bq, joinP (r.f9.map rowT) = some bt ∧ joinP (r.f10.map rowQ) = some bq ∧ b = four r.f6 ++ ([b8 (r.f9.length : Int)] ++ (bt ++ ([b8 (r.f10.length : Int)] ++ bq))) := by
  unfold bodyP at h
  rw [if_neg (by omega), if_neg (by omega), if_neg (by omega), if_neg (by omega), if_pos e] at h
  unfold tablesP at h
  obtain ⟨x1, y1, h1, k1, rfl⟩ := cat_eq h
  obtain ⟨x2, y2, h2, k2, rfl⟩ := cat_eq k1
  obtain ⟨x3, y3, h3, k3, rfl⟩ := cat_eq k2
  obtain ⟨x4, y4, h4, k4, rfl⟩ := cat_eq k3
  obtain ⟨t1, rfl⟩ := num_eq2 h1
  obtain ⟨q1, q2, rfl⟩ := small_eq2 h2
  obtain ⟨q3, q4, rfl⟩ := small_eq2 h4
  exact ⟨t1, by omega, by omega, x3, y4, h3, k4, rfl⟩
end Go.Proofs.Ytcelfhoomhmioaa.Pt
set_option maxRecDepth 8192
namespace Go.Proofs.Ytcelfhoomhmioaa.Rp
open Go Go.RowKit Go.Proofs.YtcelfhoomhmioaaW.PrintWords Go.Proofs.Ytcelfhoomhmioaa.X4
set_option linter.unusedSimpArgs false
set_option linter.unusedVariables false
abbrev St := ByteArray × Bool
def takeI (x : St) (n : Nat) : ByteArray × St := if x.2 = true ∨ x.1.size < n then (strOfNums (List.replicate n 0), x.1, true) else (x.1.extract 0 n, x.1.extract n x.1.size, false)
def smallI (x : St) : Int × St := (bt (takeI x 1).1 0, (takeI x 1).2)
def numv (b : ByteArray) : Int := ((bt b 0 * 256 + bt b 1) * 256 + bt b 2) * 256 + bt b 3
def fourI (x : St) : Int × St := (numv (takeI x 4).1, (takeI x 4).2)
def rowTI (x : St) : S134 × St := (⟨(fourI x).1, (fourI (fourI x).2).1, (fourI (fourI (fourI x).2).2).1⟩, (fourI (fourI (fourI x).2).2).2)
def rowQI (x : St) : S70 × St := (⟨(smallI x).1, (fourI (smallI x).2).1⟩, (fourI (smallI x).2).2)
def rowsTI : Nat → St → List S134 × St
  | 0, x => ([], x)
  | n + 1, x => if (rowsTI n x).2.2 = true then rowsTI n x else ((rowsTI n x).1 ++ [(rowTI (rowsTI n x).2).1], (rowTI (rowsTI n x).2).2)
def rowsQI : Nat → St → List S70 × St
  | 0, x => ([], x)
  | n + 1, x => if (rowsQI n x).2.2 = true then rowsQI n x else ((rowsQI n x).1 ++ [(rowQI (rowsQI n x).2).1], (rowQI (rowsQI n x).2).2)
end Go.Proofs.Ytcelfhoomhmioaa.Rp
