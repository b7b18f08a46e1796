import Derived.Test.YtnhlfafdldpdgaaFlt3
import Derived.Test.YtnhlfafdldpdgaaCellT
/-! Floats: sums keep the order. -/
namespace Go.Proofs.Ytnhlfafdldpdgaa.Flt
open Go Go.RowKit Go.Proofs.Ytnhlfafdldpdgaa.Cell Go.Proofs.YtnhlfafdldpdgaaW.PrintWords
set_option linter.unusedVariables false
def sg (s : Bool) (x : Int) : Int := if s then -x else x
theorem key_word (s : Bool) (r : Nat) (h : r ≤ 9218868437227405312) : keyI (F.word s r) = sg s r := by
  unfold keyI sg
  rw [(word_ng s r (by omega)).1, (word_ng s r (by omega)).2]
theorem val_sg (z : Nat) : val z = sg (ng z) (mag (rg z)) := rfl
theorem key_sg (z : Nat) : keyI z = sg (ng z) (rg z) := rfl
theorem sg_mul (s : Bool) (x y : Int) : sg s x * y = sg s (x * y) := by
  unfold sg; cases s
  · rfl
  · exact Int.neg_mul ..
theorem castle {x y : Nat} (h : (x : Int) ≤ y) : x ≤ y := by omega
theorem near_ge (s : Bool) (m : Nat) (p : Int) (z a b : Nat) (hab : p + 1074 = (a : Int) - b) (h0 : a = 0 ∨ b = 0) (hz : rg z ≤ 9218868437227405312) (h : val z * ((2 ^ b : Nat) : Int) ≤ sg s ((m * 2 ^ a : Nat) : Int)) : keyI z ≤ keyI (F.word s (rn s m p)) := by
  rw [key_word _ _ (rn_le_inf ..), key_sg]
  rw [val_sg, sg_mul, ← Int.natCast_mul] at h
  have c1 : mag (rg z) * 2 ^ b ≤ m * 2 ^ a → rg z ≤ rn s m p := fun q => rn_ge s m p (rg z) a b hab h0 hz q
  have c2 : m * 2 ^ a ≤ mag (rg z) * 2 ^ b → rn s m p ≤ rg z := fun q => rn_le s m p (rg z) a b hab h0 q
  have c3 : m * 2 ^ a ≤ mag 0 * 2 ^ b → rn s m p ≤ 0 := fun q => rn_le s m p 0 a b hab h0 q
  rw [mag_zero, Nat.zero_mul] at c3
  generalize mag (rg z) * 2 ^ b = X at *
  generalize m * 2 ^ a = Y at *
  generalize rn s m p = R at *
  unfold sg at h ⊢
  cases hs : ng z <;> cases ht : s <;> rw [hs, ht] at h <;> simp only [Bool.false_eq_true, if_false, if_true] at h ⊢
  · have := c1 (by omega); omega
  · have := c1 (by omega); have := c3 (by omega); omega
  · omega
  · have := c2 (by omega); omega
theorem near_le (s : Bool) (m : Nat) (p : Int) (z a b : Nat) (hab : p + 1074 = (a : Int) - b) (h0 : a = 0 ∨ b = 0) (hz : rg z ≤ 9218868437227405312) (h : sg s ((m * 2 ^ a : Nat) : Int) ≤ val z * ((2 ^ b : Nat) : Int)) : keyI (F.word s (rn s m p)) ≤ keyI z := by
  rw [key_word _ _ (rn_le_inf ..), key_sg]
  rw [val_sg, sg_mul, ← Int.natCast_mul] at h
  have c1 : mag (rg z) * 2 ^ b ≤ m * 2 ^ a → rg z ≤ rn s m p := fun q => rn_ge s m p (rg z) a b hab h0 hz q
  have c2 : m * 2 ^ a ≤ mag (rg z) * 2 ^ b → rn s m p ≤ rg z := fun q => rn_le s m p (rg z) a b hab h0 q
  have c3 : m * 2 ^ a ≤ mag 0 * 2 ^ b → rn s m p ≤ 0 := fun q => rn_le s m p 0 a b hab h0 q
  rw [mag_zero, Nat.zero_mul] at c3
  generalize mag (rg z) * 2 ^ b = X at *
  generalize m * 2 ^ a = Y at *
  generalize rn s m p = R at *
  unfold sg at h ⊢
  cases hs : ng z <;> cases ht : s <;> rw [hs, ht] at h <;> simp only [Bool.false_eq_true, if_false, if_true] at h ⊢
  · have := c2 (by omega); omega
  · omega
  · have := c1 (by omega); have := c3 (by omega); omega
  · have := c1 (by omega); omega
def fin (x : Nat) : Prop := rg x < 9218868437227405312
/-- A sum of two finite words is the exact sum, rounded. -/
theorem add_near (x y : Nat) (hx : fin x) (hy : fin y) : ∃ (s : Bool) (m a : Nat), vop .add x y = F.word s (rn s m ((a : Int) - 1074)) ∧ sg s ((m * 2 ^ a : Nat) : Int) = val x + val y := by
  obtain ⟨m, e, h1, h2⟩ := read_fin x hx
  obtain ⟨n, d, h3, h4⟩ := read_fin y hy
  obtain ⟨b, hb⟩ : ∃ b, min (-1074 + (e : Int)) (-1074 + (d : Int)) = b := ⟨_, rfl⟩
  have hk0 : -1074 ≤ b := by omega
  have s1 := scale (ng x) m e b (by omega) (by omega)
  have s2 := scale (ng y) n d b (by omega) (by omega)
  rw [h2] at s1; rw [h4] at s2
  change _ = val x at s1; change _ = val y at s2
  obtain ⟨t, ht⟩ : ∃ t, Ieee.signed (ng x) m (-1074 + (e : Int) - b).toNat + Ieee.signed (ng y) n (-1074 + (d : Int) - b).toNat = t := ⟨_, rfl⟩
  have hs : t * 2 ^ (b + 1074).toNat = val x + val y := by rw [← ht, Int.add_mul, s1, s2]
  refine ⟨if t = 0 then ng x && ng y else decide (t < 0), t.natAbs, (b + 1074).toNat, ?_, ?_⟩
  · show ((((F.read x).sum (F.read y)).map F.write).getD _) = _
    rw [h1, h3]
    simp only [Ieee.Datum.sum]
    rw [hb, ht]
    show F.nearest _ _ _ = _
    rw [nearest_rn, show (((b + 1074).toNat : Nat) : Int) - 1074 = b by omega]
  · rw [← hs, Int.natCast_mul, ← sg_mul]
    have e1 : sg (if t = 0 then ng x && ng y else decide (t < 0)) (t.natAbs : Int) = t := by
      unfold sg
      by_cases q : t = 0
      · subst q; simp
      · rw [if_neg q]
        by_cases c : t < 0
        · rw [decide_eq_true c, if_pos rfl]; omega
        · rw [decide_eq_false c]; simp only [Bool.false_eq_true, if_false]; omega
    rw [e1, Int.natCast_pow]
    rfl
theorem add_ge (x y z : Nat) (hx : fin x) (hy : fin y) (hz : rg z ≤ 9218868437227405312) (h : val z ≤ val x + val y) : keyI z ≤ keyI (vop .add x y) := by
  obtain ⟨s, m, a, h1, h2⟩ := add_near x y hx hy
  rw [h1]
  exact near_ge s m _ z a 0 (by omega) (Or.inr rfl) hz (by rw [h2]; simpa using h)
theorem add_le (x y z : Nat) (hx : fin x) (hy : fin y) (hz : rg z ≤ 9218868437227405312) (h : val x + val y ≤ val z) : keyI (vop .add x y) ≤ keyI z := by
  obtain ⟨s, m, a, h1, h2⟩ := add_near x y hx hy
  rw [h1]
  exact near_le s m _ z a 0 (by omega) (Or.inr rfl) hz (by rw [h2]; simpa using h)
theorem word_not_nan (s : Bool) (r : Nat) (h : r ≤ 9218868437227405312) : isN (F.word s r) = false := (word_num s r h).1
theorem add_num (x y : Nat) (hx : fin x) (hy : fin y) : isN (vop .add x y) = false := by
  obtain ⟨s, m, a, h1, h2⟩ := add_near x y hx hy
  rw [h1]; exact word_not_nan _ _ (rn_le_inf ..)
theorem fin_num {x : Nat} (h : fin x) : isN x = false := by
  unfold fin rg at h
  unfold isN
  exact decide_eq_false (by omega)
/-- A float that is no NaN is finite or an infinity. -/
theorem fin_or {x : Nat} (h : isN x = false) : fin x ∨ rg x = 9218868437227405312 := by
  have := not_nan h
  unfold fin; omega
theorem val_key (x y : Nat) : val x ≤ val y ↔ keyI x ≤ keyI y := by
  have := val_lt y x
  omega
theorem read_neg (y : Nat) (h : y < 18446744073709551616) : F.read (Op.negFloat .f64 y) = (F.read y).opposite := by
  have s := neg_split y h
  unfold ng rg at s
  rw [read_eq, read_eq, s.2, s.1]
  split
  · rfl
  · split
    · rfl
    · split <;> rfl
theorem sub_add (x y : Nat) (h : y < 18446744073709551616) : vop .sub x y = vop .add x (Op.negFloat .f64 y) := by
  show ((((F.read x).sum (F.read y).opposite).map F.write).getD _) = ((((F.read x).sum (F.read (Op.negFloat .f64 y))).map F.write).getD _)
  rw [read_neg y h]
theorem val_neg (y : Nat) (h : y < 18446744073709551616) : val (Op.negFloat .f64 y) = -val y := by
  have s := neg_split y h
  unfold val
  rw [s.1, s.2]
  cases ng y <;> simp
theorem fin_neg {y : Nat} (h : y < 18446744073709551616) (hf : fin y) : fin (Op.negFloat .f64 y) := by unfold fin; rw [(neg_split y h).2]; exact hf
theorem inf_add (x y : Nat) (hl : x < 18446744073709551616) (hx : rg x = 9218868437227405312) (hy : fin y) : vop .add x y = x := by
  obtain ⟨n, d, h3, h4⟩ := read_fin y hy
  show ((((F.read x).sum (F.read y)).map F.write).getD _) = x
  rw [read_inf x hx, h3]
  show F.word (ng x) F.infRung = x
  rw [ir, ← hx]
  exact word_self x hl
end Go.Proofs.Ytnhlfafdldpdgaa.Flt
