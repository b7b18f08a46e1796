import Derived.Test.YtnhlfafdldpdgaaFlt2
/-! Floats: rounding keeps the order. -/
namespace Go.Proofs.Ytnhlfafdldpdgaa.Flt
open Go Go.RowKit Go.Proofs.YtnhlfafdldpdgaaW.PrintWords
set_option linter.unusedVariables false
theorem lt_log2 (n : Nat) : n < 2 ^ (n.log2 + 1) := by
  by_cases h : n = 0
  · subst h; decide
  · exact (Nat.log2_lt h).1 (Nat.lt_succ_self _)
theorem cut_ge (neg : Bool) (n d c : Nat) (h : c * 2 ^ d ≤ n) : c ≤ Ieee.Toward.even.cut neg n d := by
  unfold Ieee.Toward.cut
  dsimp only
  refine Nat.le_trans ?_ (Nat.le_add_right _ _)
  by_cases hl : d ≤ n.log2 + 2
  · rw [Nat.min_eq_left hl, Nat.one_shiftLeft]
    exact (Nat.le_div_iff_mul_le (Nat.two_pow_pos d)).2 h
  · have h1 := lt_log2 n
    have h2 : 2 ^ (n.log2 + 1) ≤ 2 ^ d := Nat.pow_le_pow_right (by decide) (by omega)
    have h3 : c = 0 := by
      rcases Nat.eq_zero_or_pos c with q | q
      · exact q
      · have := Nat.le_mul_of_pos_left (2 ^ d) q; omega
    rw [h3]; exact Nat.zero_le _
theorem cut_le (neg : Bool) (n d c : Nat) (h : n ≤ c * 2 ^ d) : Ieee.Toward.even.cut neg n d ≤ c := by
  unfold Ieee.Toward.cut
  dsimp only
  by_cases hl : d ≤ n.log2 + 2
  · rw [Nat.min_eq_left hl, Nat.one_shiftLeft]
    have p := Nat.two_pow_pos d
    have e := Nat.div_add_mod n (2 ^ d)
    have hlow : n / 2 ^ d ≤ c := Nat.div_le_of_le_mul (by rw [Nat.mul_comm]; exact h)
    by_cases q : n / 2 ^ d = c
    · have hr : n % 2 ^ d = 0 := by rw [q, Nat.mul_comm] at e; omega
      rw [hr, q]
      have e1 : decide (2 ^ d < 2 * 0) = false := decide_eq_false (by omega)
      have e2 : (2 ^ d == 2 * 0) = false := beq_eq_false_iff_ne.2 (by omega)
      simp only [e1, e2, Bool.false_and, Bool.or_false, Bool.toNat_false, Nat.add_zero]
      exact Nat.le_refl _
    · have : ∀ b : Bool, b.toNat ≤ 1 := fun b => by cases b <;> decide
      have := this (decide (2 ^ d < 2 * (n % 2 ^ d)) || 2 ^ d == 2 * (n % 2 ^ d) && n / 2 ^ d % 2 == 1)
      omega
  · rw [Nat.min_eq_right (by omega), Nat.one_shiftLeft]
    have h1 := lt_log2 n
    have h2 : 2 ^ (n.log2 + 2) = 2 * 2 ^ (n.log2 + 1) := by rw [show n.log2 + 2 = (n.log2 + 1) + 1 by omega, Nat.pow_succ, Nat.mul_comm]
    rw [Nat.div_eq_of_lt (by omega), Nat.mod_eq_of_lt (by omega)]
    have e1 : decide (2 ^ (n.log2 + 2) < 2 * n) = false := decide_eq_false (by omega)
    have e2 : (2 ^ (n.log2 + 2) == 2 * n) = false := beq_eq_false_iff_ne.2 (by omega)
    simp only [e1, e2, Bool.false_and, Bool.or_false, Bool.toNat_false, Nat.add_zero]
    exact Nat.zero_le _
/-- The rung to which 'm * 2 ^ p' is rounded. -/
def rn (s : Bool) (m : Nat) (p : Int) : Nat := if m = 0 then 0 else min ((max (p + m.log2 - 52) (-1074) + 1074).toNat * 4503599627370496 + Ieee.Toward.even.cut s (m <<< (p - max (p + m.log2 - 52) (-1074)).toNat) (max (p + m.log2 - 52) (-1074) - p).toNat) 9218868437227405312
theorem nearest_rn (s : Bool) (m : Nat) (p : Int) : F.nearest s m p = F.word s (rn s m p) := by
  unfold Ieee.Format.nearest rn
  by_cases h : m = 0
  · rw [if_pos h, if_pos h]
  · rw [if_neg h, if_neg h]
    dsimp only
    have fb : (F.fractionBits : Int) = 52 := rfl
    rw [lp, bi, ir, fb]
    congr 3
theorem rn_le_inf (s : Bool) (m : Nat) (p : Int) : rn s m p ≤ 9218868437227405312 := by
  unfold rn
  split
  · exact Nat.zero_le _
  · exact Nat.min_le_right ..
/-- What is known of the rung: its binade e, and what is kept, by the value (a, b: how far it is to be moved up, down). -/
theorem rn_form (s : Bool) (m : Nat) (p : Int) (hm : m ≠ 0) (a b : Nat) (hab : p + 1074 = (a : Int) - b) (h0 : a = 0 ∨ b = 0) :
    ∃ e K : Nat, rn s m p = min (e * 4503599627370496 + K) 9218868437227405312 ∧ (e : Int) = max ((m.log2 : Int) + a - b - 52) 0 ∧ (∀ c, c * 2 ^ (e + b) ≤ m * 2 ^ a → c ≤ K) ∧ (∀ c, m * 2 ^ a ≤ c * 2 ^ (e + b) → K ≤ c) := by
  unfold rn
  rw [if_neg hm]
  obtain ⟨e, he⟩ : ∃ e : Nat, max (p + m.log2 - 52) (-1074) = (e : Int) - 1074 := ⟨(max (p + m.log2 - 52) (-1074) + 1074).toNat, by omega⟩
  rw [he]
  refine ⟨e, _, by rw [show ((e : Int) - 1074 + 1074).toNat = e by omega], by omega, ?_, ?_⟩
  · intro c hc
    rw [Nat.shiftLeft_eq]
    by_cases q : a ≤ e + b
    · rw [show (p - ((e : Int) - 1074)).toNat = 0 by omega, show ((e : Int) - 1074 - p).toNat = e + b - a by omega, Nat.pow_zero, Nat.mul_one]
      refine cut_ge _ _ _ _ ?_
      refine Nat.le_of_mul_le_mul_right ?_ (Nat.two_pow_pos a)
      rw [Nat.mul_assoc, ← Nat.pow_add, Nat.sub_add_cancel q]
      exact hc
    · rw [show (p - ((e : Int) - 1074)).toNat = a - (e + b) by omega, show ((e : Int) - 1074 - p).toNat = 0 by omega]
      refine cut_ge _ _ _ _ ?_
      rw [Nat.pow_zero, Nat.mul_one]
      refine Nat.le_of_mul_le_mul_right ?_ (Nat.two_pow_pos (e + b))
      rw [Nat.mul_assoc, ← Nat.pow_add, Nat.sub_add_cancel (by omega)]
      exact hc
  · intro c hc
    rw [Nat.shiftLeft_eq]
    by_cases q : a ≤ e + b
    · rw [show (p - ((e : Int) - 1074)).toNat = 0 by omega, show ((e : Int) - 1074 - p).toNat = e + b - a by omega, Nat.pow_zero, Nat.mul_one]
      refine cut_le _ _ _ _ ?_
      refine Nat.le_of_mul_le_mul_right ?_ (Nat.two_pow_pos a)
      rw [Nat.mul_assoc, ← Nat.pow_add, Nat.sub_add_cancel q]
      exact hc
    · rw [show (p - ((e : Int) - 1074)).toNat = a - (e + b) by omega, show ((e : Int) - 1074 - p).toNat = 0 by omega]
      refine cut_le _ _ _ _ ?_
      rw [Nat.pow_zero, Nat.mul_one]
      refine Nat.le_of_mul_le_mul_right ?_ (Nat.two_pow_pos (e + b))
      rw [Nat.mul_assoc, ← Nat.pow_add, Nat.sub_add_cancel (by omega)]
      exact hc
theorem pow_lt_imp {x y : Nat} (h : 2 ^ x < 2 ^ y) : x < y := by
  refine Nat.lt_of_not_le fun q => ?_
  have := Nat.pow_le_pow_right (n := 2) (by decide) q
  omega
/-- A rung: below the binades, or in one. -/
theorem mag_form (r : Nat) : (r < 4503599627370496 ∧ mag r = r) ∨ (∃ k f, f < 4503599627370496 ∧ r = (k + 1) * 4503599627370496 + f ∧ mag r = (4503599627370496 + f) * 2 ^ k) := by
  unfold mag
  by_cases c : r < 4503599627370496
  · left; rw [if_pos c]; exact ⟨c, rfl⟩
  · right; rw [if_neg c]; exact ⟨r / 4503599627370496 - 1, r % 4503599627370496, Nat.mod_lt _ (by decide), by omega, rfl⟩
theorem rn_ge (s : Bool) (m : Nat) (p : Int) (r a b : Nat) (hab : p + 1074 = (a : Int) - b) (h0 : a = 0 ∨ b = 0) (hr : r ≤ 9218868437227405312) (h : mag r * 2 ^ b ≤ m * 2 ^ a) : r ≤ rn s m p := by
  by_cases hm : m = 0
  · subst hm
    have p := Nat.two_pow_pos b
    have : mag r = 0 := by
      rcases Nat.eq_zero_or_pos (mag r) with q | q
      · exact q
      · have := Nat.mul_le_mul_right (2 ^ b) q; omega
    rw [mag_inj (this.trans mag_zero.symm)]
    exact Nat.zero_le _
  · obtain ⟨e, K, hf, he, k1, k2⟩ := rn_form s m p hm a b hab h0
    rw [hf]
    refine Nat.le_min.2 ⟨?_, hr⟩
    have l1 : 2 ^ m.log2 ≤ m := (Nat.le_log2 hm).1 (Nat.le_refl _)
    have l2 := lt_log2 m
    have v1 : 2 ^ (m.log2 + a) ≤ m * 2 ^ a := by rw [Nat.pow_add]; exact Nat.mul_le_mul_right _ l1
    have v2 : m * 2 ^ a < 2 ^ (m.log2 + 1 + a) := by rw [Nat.pow_add]; exact Nat.mul_lt_mul_of_pos_right l2 (Nat.two_pow_pos _)
    have hK : 0 < e → 4503599627370496 ≤ K := fun q => k1 _ (by
      rw [show (4503599627370496 : Nat) = 2 ^ 52 from rfl, ← Nat.pow_add, show 52 + (e + b) = m.log2 + a by omega]; exact v1)
    rcases mag_form r with ⟨q, hq⟩ | ⟨k, f, hfl, hrk, hq⟩
    · rw [hq] at h
      by_cases z : e = 0
      · subst z
        have := k1 r (by rw [Nat.zero_add]; exact h)
        omega
      · have := hK (by omega); omega
    · rw [hq] at h
      have w1 : 2 ^ (52 + k + b) ≤ m * 2 ^ a := by
        refine Nat.le_trans ?_ h
        rw [Nat.pow_add, Nat.pow_add]
        exact Nat.mul_le_mul_right _ (Nat.mul_le_mul_right _ (by show 4503599627370496 ≤ _; omega))
      have w2 : 52 + k + b < m.log2 + 1 + a := pow_lt_imp (Nat.lt_of_le_of_lt w1 v2)
      have w3 : k ≤ e := by omega
      by_cases z : e = k
      · subst z
        have := k1 (4503599627370496 + f) (by rw [Nat.pow_add, ← Nat.mul_assoc]; exact h)
        omega
      · have := hK (by omega)
        have : (k + 1) * 4503599627370496 ≤ e * 4503599627370496 := Nat.mul_le_mul_right _ (by omega)
        omega
theorem rn_le (s : Bool) (m : Nat) (p : Int) (r a b : Nat) (hab : p + 1074 = (a : Int) - b) (h0 : a = 0 ∨ b = 0) (h : m * 2 ^ a ≤ mag r * 2 ^ b) : rn s m p ≤ r := by
  by_cases hm : m = 0
  · unfold rn; rw [if_pos hm]; exact Nat.zero_le _
  · obtain ⟨e, K, hf, he, k1, k2⟩ := rn_form s m p hm a b hab h0
    rw [hf]
    refine Nat.le_trans (Nat.min_le_left ..) ?_
    have l1 : 2 ^ m.log2 ≤ m := (Nat.le_log2 hm).1 (Nat.le_refl _)
    have l2 := lt_log2 m
    have v1 : 2 ^ (m.log2 + a) ≤ m * 2 ^ a := by rw [Nat.pow_add]; exact Nat.mul_le_mul_right _ l1
    have v2 : m * 2 ^ a < 2 ^ (m.log2 + 1 + a) := by rw [Nat.pow_add]; exact Nat.mul_lt_mul_of_pos_right l2 (Nat.two_pow_pos _)
    have hK : K ≤ 9007199254740992 := k2 _ (by
      refine Nat.le_trans (Nat.le_of_lt v2) ?_
      rw [show (9007199254740992 : Nat) = 2 ^ 53 from rfl, ← Nat.pow_add]
      exact Nat.pow_le_pow_right (by decide) (by omega))
    rcases mag_form r with ⟨q, hq⟩ | ⟨k, f, hfl, hrk, hq⟩
    · rw [hq] at h
      have w1 : 2 ^ (m.log2 + a) < 2 ^ (52 + b) := by
        refine Nat.lt_of_le_of_lt (Nat.le_trans v1 h) ?_
        rw [Nat.pow_add]
        exact Nat.mul_lt_mul_of_pos_right (by show r < 4503599627370496; exact q) (Nat.two_pow_pos _)
      have w2 := pow_lt_imp w1
      obtain rfl : e = 0 := by omega
      have := k2 r (by rw [Nat.zero_add]; exact h)
      omega
    · rw [hq] at h
      have w1 : 2 ^ (m.log2 + a) < 2 ^ (53 + k + b) := by
        refine Nat.lt_of_le_of_lt (Nat.le_trans v1 h) ?_
        rw [Nat.pow_add, Nat.pow_add]
        exact Nat.mul_lt_mul_of_pos_right (Nat.mul_lt_mul_of_pos_right (by show _ < 9007199254740992; omega) (Nat.two_pow_pos _)) (Nat.two_pow_pos _)
      have w2 := pow_lt_imp w1
      have w3 : e ≤ k := by omega
      by_cases z : e = k
      · subst z
        have := k2 (4503599627370496 + f) (by rw [Nat.pow_add, ← Nat.mul_assoc]; exact h)
        omega
      · have : e * 4503599627370496 + 4503599627370496 ≤ k * 4503599627370496 := by
          have := Nat.mul_le_mul_right 4503599627370496 (show e + 1 ≤ k by omega); omega
        omega
end Go.Proofs.Ytnhlfafdldpdgaa.Flt
