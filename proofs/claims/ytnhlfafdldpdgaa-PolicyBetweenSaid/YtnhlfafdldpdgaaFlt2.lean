import Derived.Test.YtnhlfafdldpdgaaFlt
/-! Floats: what is exact. -/
namespace Go.Proofs.Ytnhlfafdldpdgaa.Flt
open Go Go.RowKit Go.Proofs.YtnhlfafdldpdgaaW.PrintWords
set_option linter.unusedVariables false
theorem cut_exact (neg : Bool) (c d : Nat) (hc : 0 < c) : Ieee.Toward.even.cut neg (c * 2 ^ d) d = c := by
  unfold Ieee.Toward.cut
  have hl : d ≤ (c * 2 ^ d).log2 + 2 := by
    have h1 : 2 ^ d ≤ c * 2 ^ d := Nat.le_mul_of_pos_left _ hc
    have h2 : c * 2 ^ d ≠ 0 := by have := Nat.two_pow_pos d; exact Nat.mul_ne_zero (by omega) (by omega)
    have := (Nat.le_log2 h2).2 h1
    omega
  rw [Nat.min_eq_left hl, Nat.one_shiftLeft]
  have p := Nat.two_pow_pos d
  dsimp only
  rw [Nat.mul_div_cancel _ p, Nat.mul_mod_left]
  have e1 : decide (2 ^ d < 2 * 0) = false := decide_eq_false (by omega)
  have e2 : (2 ^ d == 2 * 0) = false := beq_eq_false_iff_ne.2 (by omega)
  simp only [e1, e2, Bool.false_and, Bool.or_false, Bool.toNat_false, Nat.add_zero]
theorem log2_eq {n k : Nat} (h0 : 2 ^ k ≤ n) (h1 : n < 2 ^ (k + 1)) : n.log2 = k := by
  have hn : n ≠ 0 := by have := Nat.two_pow_pos k; omega
  have a := (Nat.le_log2 hn).2 h0
  have b := (Nat.log2_lt hn).2 h1
  omega
theorem mag_inj {a b : Nat} (h : mag a = mag b) : a = b := by
  rcases Nat.lt_trichotomy a b with g | g | g
  · have := mag_mono a b g; omega
  · exact g
  · have := mag_mono b a g; omega
/-- A number that the format has is written as it is. -/
theorem nearest_exact (s : Bool) (m : Nat) (p : Int) (r : Nat) (hp : -1074 ≤ p) (hr : r < 9218868437227405312) (h : m * 2 ^ (p + 1074).toNat = mag r) : F.nearest s m p = F.word s r := by
  unfold Ieee.Format.nearest
  by_cases hm : m = 0
  · rw [if_pos hm]
    subst hm
    rw [Nat.zero_mul] at h
    rw [mag_inj (a := r) (b := 0) (h.symm.trans mag_zero.symm)]
  · rw [if_neg hm]
    dsimp only
    rw [lp, bi, ir]
    obtain ⟨q, hq⟩ : ∃ q : Nat, (p + 1074).toNat = q := ⟨_, rfl⟩
    rw [hq] at h
    have hpq : p = (q : Int) - 1074 := by omega
    subst hpq
    have fb : (F.fractionBits : Int) = 52 := rfl
    rw [fb]
    have hm1 : 2 ^ m.log2 ≤ m := (Nat.le_log2 hm).1 (Nat.le_refl _)
    have hm2 : m < 2 ^ (m.log2 + 1) := (Nat.log2_lt hm).1 (Nat.lt_succ_self _)
    have v1 : 2 ^ (m.log2 + q) ≤ m * 2 ^ q := by rw [Nat.pow_add]; exact Nat.mul_le_mul_right _ hm1
    have v2 : m * 2 ^ q < 2 ^ (m.log2 + q + 1) := by
      rw [show m.log2 + q + 1 = (m.log2 + 1) + q by omega, Nat.pow_add]
      exact Nat.mul_lt_mul_of_pos_right hm2 (Nat.two_pow_pos q)
    have hV := log2_eq v1 v2
    have hV0 : m * 2 ^ q ≠ 0 := by have := Nat.two_pow_pos (m.log2 + q); omega
    rw [h] at hV hV0
    unfold mag at h hV hV0
    by_cases c : r < 4503599627370496
    · rw [if_pos c] at h hV hV0
      have hL : m.log2 + q < 52 := by rw [← hV]; exact (Nat.log2_lt hV0).2 c
      have e1 : max ((q : Int) - 1074 + (m.log2 : Int) - 52) (-1074) = -1074 := by omega
      rw [e1]
      have e2 : ((q : Int) - 1074 - -1074).toNat = q := by omega
      have e3 : (-1074 - ((q : Int) - 1074)).toNat = 0 := by omega
      have e4 : ((-1074 : Int) - -1074).toNat = 0 := by omega
      rw [e2, e3, e4, Nat.shiftLeft_eq, h, Nat.zero_mul, Nat.zero_add]
      have := cut_exact s r 0 (by omega)
      rw [Nat.pow_zero, Nat.mul_one] at this
      rw [this, Nat.min_eq_left (by omega)]
    · rw [if_neg c] at h hV hV0
      obtain ⟨k, hk⟩ : ∃ k, r / 4503599627370496 - 1 = k := ⟨_, rfl⟩
      obtain ⟨f, hf⟩ : ∃ f, r % 4503599627370496 = f := ⟨_, rfl⟩
      rw [hk, hf] at h hV hV0
      have hrk : r = (k + 1) * 4503599627370496 + f := by omega
      have hfl : f < 4503599627370496 := by omega
      have g1 : 2 ^ (52 + k) ≤ (4503599627370496 + f) * 2 ^ k := by
        rw [Nat.pow_add]; exact Nat.mul_le_mul_right _ (by show 4503599627370496 ≤ _; omega)
      have g2 : (4503599627370496 + f) * 2 ^ k < 2 ^ (52 + k + 1) := by
        rw [show 52 + k + 1 = 53 + k by omega, Nat.pow_add]; exact Nat.mul_lt_mul_of_pos_right (by show _ < 9007199254740992; omega) (Nat.two_pow_pos k)
      have hV2 := log2_eq g1 g2
      rw [hV] at hV2
      have e1 : max ((q : Int) - 1074 + (m.log2 : Int) - 52) (-1074) = (k : Int) - 1074 := by omega
      rw [e1]
      have e4 : ((k : Int) - 1074 - -1074).toNat = k := by omega
      rw [e4]
      have e5 : Ieee.Toward.even.cut s (m <<< ((q : Int) - 1074 - ((k : Int) - 1074)).toNat) ((k : Int) - 1074 - ((q : Int) - 1074)).toNat = 4503599627370496 + f := by
        rw [Nat.shiftLeft_eq]
        by_cases c2 : k ≤ q
        · have e6 : ((q : Int) - 1074 - ((k : Int) - 1074)).toNat = q - k := by omega
          have e7 : ((k : Int) - 1074 - ((q : Int) - 1074)).toNat = 0 := by omega
          rw [e6, e7]
          have e8 : m * 2 ^ (q - k) = 4503599627370496 + f := by
            have : m * 2 ^ (q - k) * 2 ^ k = (4503599627370496 + f) * 2 ^ k := by
              rw [← h, Nat.mul_assoc, ← Nat.pow_add, Nat.sub_add_cancel c2]
            exact Nat.eq_of_mul_eq_mul_right (Nat.two_pow_pos k) this
          rw [e8]
          have := cut_exact s (4503599627370496 + f) 0 (by omega)
          rw [Nat.pow_zero, Nat.mul_one] at this
          exact this
        · have e6 : ((q : Int) - 1074 - ((k : Int) - 1074)).toNat = 0 := by omega
          have e7 : ((k : Int) - 1074 - ((q : Int) - 1074)).toNat = k - q := by omega
          rw [e6, e7, Nat.pow_zero, Nat.mul_one]
          have e8 : m = (4503599627370496 + f) * 2 ^ (k - q) := by
            have : m * 2 ^ q = (4503599627370496 + f) * 2 ^ (k - q) * 2 ^ q := by
              rw [h, Nat.mul_assoc, ← Nat.pow_add, Nat.sub_add_cancel (by omega)]
            exact Nat.eq_of_mul_eq_mul_right (Nat.two_pow_pos q) this
          rw [e8]
          exact cut_exact s _ _ (by omega)
      rw [e5]
      rw [Nat.min_eq_left (by omega)]
      congr 1
      omega
/-- The sum of two finite words, where the format has it. -/
theorem add_fin (x y : Nat) (hx : rg x < 9218868437227405312) (hy : rg y < 9218868437227405312) (r : Nat) (hr : r < 9218868437227405312) (h : (val x + val y).natAbs = mag r) : vop .add x y = F.word (if val x + val y = 0 then ng x && ng y else decide (val x + val y < 0)) r := by
  obtain ⟨m, e, h1, h2⟩ := read_fin x hx
  obtain ⟨n, d, h3, h4⟩ := read_fin y hy
  have hk0 : -1074 ≤ min (-1074 + (e : Int)) (-1074 + (d : Int)) := by omega
  obtain ⟨b, hb⟩ : ∃ b, min (-1074 + (e : Int)) (-1074 + (d : Int)) = b := ⟨_, rfl⟩
  have s1 := scale (ng x) m e b (by omega) (by omega)
  have s2 := scale (ng y) n d b (by omega) (by omega)
  rw [h2] at s1; rw [h4] at s2
  change _ = val x at s1; change _ = val y at s2
  obtain ⟨t, ht⟩ : ∃ t, Ieee.signed (ng x) m (-1074 + (e : Int) - b).toNat + Ieee.signed (ng y) n (-1074 + (d : Int) - b).toNat = t := ⟨_, rfl⟩
  have hpos : (0 : Int) < 2 ^ (b + 1074).toNat := Int.pow_pos (by decide)
  have hs : t * 2 ^ (b + 1074).toNat = val x + val y := by rw [← ht, Int.add_mul, s1, s2]
  have hz : t = 0 ↔ val x + val y = 0 := by
    rw [← hs]
    constructor
    · intro q; rw [q, Int.zero_mul]
    · intro q
      rcases Int.mul_eq_zero.1 q with q | q
      · exact q
      · omega
  have hn : t < 0 ↔ val x + val y < 0 := by
    rw [← hs]
    constructor
    · intro q; exact Int.mul_neg_of_neg_of_pos q hpos
    · intro q
      exact Int.lt_of_not_ge fun c => by have := Int.mul_nonneg c (Int.le_of_lt hpos); omega
  have hm : t.natAbs * 2 ^ (b + 1074).toNat = mag r := by
    rw [← h, ← hs, Int.natAbs_mul]
    rw [Int.natAbs_pow]; rfl
  show ((((F.read x).sum (F.read y)).map F.write).getD _) = _
  rw [h1, h3]
  simp only [Ieee.Datum.sum]
  rw [hb, ht]
  show F.nearest _ _ _ = _
  rw [nearest_exact _ _ _ r (by omega) hr hm]
  congr 1
  by_cases q : t = 0
  · rw [if_pos q, if_pos (hz.1 q)]
  · rw [if_neg q, if_neg (fun z => q (hz.2 z))]
    exact decide_eq_decide.2 hn
theorem word_ng (s : Bool) (r : Nat) (h : r < 9223372036854775808) : ng (F.word s r) = s ∧ rg (F.word s r) = r := by
  unfold Ieee.Format.word ng rg
  rw [sw]
  cases s
  · simp only [Bool.false_eq_true, if_false]
    refine ⟨?_, by omega⟩
    rw [show r / 9223372036854775808 % 2 = 0 by omega]; rfl
  · simp only [if_true]
    refine ⟨?_, by omega⟩
    rw [show (9223372036854775808 + r) / 9223372036854775808 % 2 = 1 by omega]; rfl
theorem val_word (s : Bool) (r : Nat) (h : r < 9223372036854775808) : val (F.word s r) = if s then -(mag r : Int) else (mag r : Int) := by
  unfold val
  rw [(word_ng s r h).1, (word_ng s r h).2]
theorem word_self (b : Nat) (h : b < 18446744073709551616) : F.word (ng b) (rg b) = b := by
  unfold Ieee.Format.word ng rg
  rw [sw]
  by_cases c : b / 9223372036854775808 % 2 = 1
  · rw [c]; simp only [beq_self_eq_true, if_true]; omega
  · rw [show b / 9223372036854775808 % 2 = 0 by omega]
    simp only [show ((0 : Nat) == 1) = false from rfl, Bool.false_eq_true, if_false]; omega
/-- A unit, in units of the least place. -/
def bigE (e : Nat) : Nat := 2 ^ e
def big : Nat := bigE 1074
theorem bigE_pos (e : Nat) : 0 < bigE e := Nat.two_pow_pos e
theorem big_pos : 0 < big := bigE_pos 1074
theorem bigE_of (e f : Nat) (h : e = f) : 2 ^ e = bigE f := by subst h; rfl
theorem big_eq (q : Nat) (h : q ≤ 52) : big = 2 ^ (52 - q) * 2 ^ (1022 + q) := by
  rw [← Nat.pow_add]
  exact (bigE_of _ _ (by omega)).symm
/-- The rung of a whole number. -/
def rep (n : Nat) : Nat := if n = 0 then 0 else (n.log2 + 1023) * 4503599627370496 + (n * 2 ^ (52 - n.log2) - 4503599627370496)
theorem rep_mag (n : Nat) (h : n < 9007199254740992) : mag (rep n) = n * big ∧ rep n < 9218868437227405312 := by
  unfold rep
  by_cases h0 : n = 0
  · subst h0; rw [if_pos rfl, mag_zero, Nat.zero_mul]; exact ⟨rfl, by decide⟩
  · rw [if_neg h0]
    have a : 2 ^ n.log2 ≤ n := (Nat.le_log2 h0).1 (Nat.le_refl _)
    have b : n < 2 ^ (n.log2 + 1) := (Nat.log2_lt h0).1 (Nat.lt_succ_self _)
    have hq : n.log2 < 53 := (Nat.log2_lt h0).2 h
    generalize n.log2 = q at *
    have c1 : 2 ^ q * 2 ^ (52 - q) = 4503599627370496 := by rw [← Nat.pow_add, show q + (52 - q) = 52 by omega]
    have c2 : 2 ^ (q + 1) * 2 ^ (52 - q) = 9007199254740992 := by rw [← Nat.pow_add, show q + 1 + (52 - q) = 53 by omega]
    have d1 : 4503599627370496 ≤ n * 2 ^ (52 - q) := by rw [← c1]; exact Nat.mul_le_mul_right _ a
    have d2 : n * 2 ^ (52 - q) < 9007199254740992 := by rw [← c2]; exact Nat.mul_lt_mul_of_pos_right b (Nat.two_pow_pos _)
    have e : n * big = n * 2 ^ (52 - q) * 2 ^ (1022 + q) := by rw [Nat.mul_assoc, ← big_eq q (by omega)]
    rw [e]
    generalize n * 2 ^ (52 - q) = z at *
    unfold mag
    rw [if_neg (by omega), show ((q + 1023) * 4503599627370496 + (z - 4503599627370496)) % 4503599627370496 = z - 4503599627370496 by omega, show ((q + 1023) * 4503599627370496 + (z - 4503599627370496)) / 4503599627370496 = q + 1023 by omega, show 4503599627370496 + (z - 4503599627370496) = z by omega, show q + 1023 - 1 = 1022 + q by omega]
    exact ⟨rfl, by omega⟩
abbrev fi (n : Int) : Nat := floatOfInt .f64 n
theorem fi_eq (n : Int) (h : n.natAbs < 9007199254740992) : fi n = F.word (decide (n < 0)) (rep n.natAbs) := by
  obtain ⟨h1, h2⟩ := rep_mag n.natAbs h
  refine nearest_exact (decide (n < 0)) n.natAbs 0 (rep n.natAbs) (by decide) h2 ?_
  rw [h1, bigE_of ((0 : Int) + 1074).toNat 1074 (by decide)]
  rfl
theorem fi_fin (n : Int) (h : n.natAbs < 9007199254740992) : ng (fi n) = decide (n < 0) ∧ rg (fi n) = rep n.natAbs ∧ rg (fi n) < 9218868437227405312 ∧ val (fi n) = n * (big : Int) := by
  obtain ⟨h1, h2⟩ := rep_mag n.natAbs h
  rw [fi_eq n h]
  have w := word_ng (decide (n < 0)) (rep n.natAbs) (by omega)
  refine ⟨w.1, w.2, by rw [w.2]; exact h2, ?_⟩
  rw [val_word _ _ (by omega), h1]
  by_cases c : n < 0
  · rw [decide_eq_true c, if_pos rfl]
    rw [show n = -(n.natAbs : Int) by omega]
    simp
    exact (Int.neg_mul ..).symm
  · rw [decide_eq_false c]
    simp only [Bool.false_eq_true, if_false]
    rw [show n = (n.natAbs : Int) by omega]
    simp
/-- A finite word whose value is a whole number. -/
def isI (x : Nat) (n : Int) : Prop := rg x < 9218868437227405312 ∧ val x = n * (big : Int)
theorem add_int (x y : Nat) (a b : Int) (hx : isI x a) (hy : isI y b) (h : (a + b).natAbs < 9007199254740992) : vop .add x y = F.word (if a + b = 0 then ng x && ng y else decide (a + b < 0)) (rep (a + b).natAbs) ∧ isI (vop .add x y) (a + b) := by
  obtain ⟨h1, h2⟩ := rep_mag (a + b).natAbs h
  have hv : val x + val y = (a + b) * (big : Int) := by rw [hx.2, hy.2, Int.add_mul]
  have hp : (0 : Int) < (big : Int) := by have := big_pos; omega
  have e := add_fin x y hx.1 hy.1 (rep (a + b).natAbs) h2 (by rw [hv, h1, Int.natAbs_mul]; rfl)
  have z : val x + val y = 0 ↔ a + b = 0 := by
    rw [hv]
    constructor
    · intro q
      rcases Int.mul_eq_zero.1 q with q | q
      · exact q
      · omega
    · intro q; rw [q, Int.zero_mul]
  have l : val x + val y < 0 ↔ a + b < 0 := by
    rw [hv]
    constructor
    · intro q
      exact Int.lt_of_not_ge fun c => by have := Int.mul_nonneg c (Int.le_of_lt hp); omega
    · intro q; exact Int.mul_neg_of_neg_of_pos q hp
  have e2 : vop .add x y = F.word (if a + b = 0 then ng x && ng y else decide (a + b < 0)) (rep (a + b).natAbs) := by
    rw [e]
    congr 1
    by_cases q : a + b = 0
    · rw [if_pos q, if_pos (z.2 q)]
    · rw [if_neg q, if_neg (fun c => q (z.1 c))]
      exact decide_eq_decide.2 l
  refine ⟨e2, ?_⟩
  rw [e2]
  have w := word_ng (if a + b = 0 then ng x && ng y else decide (a + b < 0)) (rep (a + b).natAbs) (by omega)
  refine ⟨by rw [w.2]; exact h2, ?_⟩
  rw [val_word _ _ (by omega), h1]
  by_cases q : a + b = 0
  · rw [q]; simp
  · rw [if_neg q]
    by_cases c : a + b < 0
    · rw [decide_eq_true c, if_pos rfl]
      generalize a + b = s at *
      rw [show s = -(s.natAbs : Int) by omega]
      simp
      exact (Int.neg_mul ..).symm
    · rw [decide_eq_false c]
      simp only [Bool.false_eq_true, if_false]
      generalize a + b = s at *
      rw [show s = (s.natAbs : Int) by omega]
      simp
theorem vop_comm (x y : Nat) : vop .add x y = vop .add y x := by
  unfold vop
  congr 1
  show ((F.read x).sum (F.read y)).map F.write = ((F.read y).sum (F.read x)).map F.write
  congr 1
  generalize F.read x = d
  generalize F.read y = e
  cases d <;> cases e <;> simp only [Ieee.Datum.sum]
  · rename_i s m i t n j
    rw [Int.min_comm, Int.add_comm, Bool.and_comm]
  · rename_i s t
    by_cases c : s = t
    · subst c; rfl
    · rw [if_neg c, if_neg (fun h => c h.symm)]
end Go.Proofs.Ytnhlfafdldpdgaa.Flt
