import Derived.Test.YtnhlfafdldpdgaaFlt5
import Derived.Test.YtnhlfafdldpdgaaMeterP
/-! Floats: a step of a mean: it stays between; signs. -/
namespace Go.Proofs.Ytnhlfafdldpdgaa.Flt
open Go Go.RowKit Go.Proofs.Ytnhlfafdldpdgaa.Cell Go.Proofs.Ytnhlfafdldpdgaa.Pol Go.Proofs.YtnhlfafdldpdgaaW.PrintWords
set_option linter.unusedVariables false
theorem read_fin2 (b : Nat) (h : fin b) : ∃ m e : Nat, F.read b = .number (ng b) m (-1074 + (e : Int)) ∧ m * 2 ^ e = mag (rg b) ∧ m < 9007199254740992 := by
  unfold fin at h
  rw [read_eq]
  unfold mag
  unfold rg at *
  by_cases c : b % 9223372036854775808 < 4503599627370496
  · rw [if_pos c, if_pos c]
    exact ⟨_, 0, rfl, by rw [Nat.pow_zero, Nat.mul_one], by omega⟩
  · rw [if_neg c, if_neg c, if_pos h]
    exact ⟨_, _, rfl, rfl, by omega⟩
theorem read_one : F.read 4607182418800017408 = .number false 4503599627370496 (-52) := by decide +kernel
/-- What is divided by one. -/
theorem quo_one (x : Nat) (hl : x < 18446744073709551616) (hx : fin x) : vop .quo x 4607182418800017408 = x := by
  obtain ⟨μ, e, h1, h2, h3⟩ := read_fin2 x hx
  have hlog : (4503599627370496 : Nat).log2 = 52 := by decide +kernel
  have hμl : μ.log2 ≤ 52 := by
    by_cases z : μ = 0
    · subst z; decide
    · have := (Nat.log2_lt z).2 (show μ < 2 ^ 53 from h3); omega
  obtain ⟨mo, hmo⟩ : ∃ mo, 54 + 52 - μ.log2 = mo := ⟨_, rfl⟩
  have hq : μ * 2 ^ mo = 4503599627370496 * (μ * 2 ^ (mo - 52)) := by
    rw [show (4503599627370496 : Nat) = 2 ^ 52 from rfl, Nat.mul_left_comm, ← Nat.pow_add, show 52 + (mo - 52) = mo by omega]
  have hv : vop .quo x 4607182418800017408 = F.word (ng x) (rn (ng x) (2 * (μ * 2 ^ (mo - 52))) ((-1074 + (e : Int)) - (-52) - mo - 1)) := by
    show ((((F.read x).quotient 54 (F.read 4607182418800017408)).map F.write).getD _) = _
    rw [h1, read_one]
    simp only [Ieee.Datum.quotient]
    rw [if_neg (by decide), hlog]
    simp only [hmo, Nat.shiftLeft_eq]
    rw [hq, Nat.mul_div_cancel_left _ (by decide), Nat.mul_mod_right]
    show F.nearest _ _ _ = _
    rw [Bool.xor_false, nearest_rn]
    rfl
  rw [hv]
  have hr : rn (ng x) (2 * (μ * 2 ^ (mo - 52))) ((-1074 + (e : Int)) - (-52) - mo - 1) = rg x := by
    have hx' : rg x ≤ 9218868437227405312 := Nat.le_of_lt hx
    have eq : 2 * (μ * 2 ^ (mo - 52)) = μ * 2 ^ (mo - 51) := by
      rw [Nat.mul_left_comm, show mo - 51 = (mo - 52) + 1 by omega, Nat.pow_succ, Nat.mul_comm 2]
    rw [eq]
    by_cases c : mo - 51 ≤ e
    · have h5 : μ * 2 ^ (mo - 51) * 2 ^ (e - (mo - 51)) = mag (rg x) := by rw [Nat.mul_assoc, ← Nat.pow_add, show mo - 51 + (e - (mo - 51)) = e by omega]; exact h2
      refine Nat.le_antisymm (rn_le _ _ _ _ (e - (mo - 51)) 0 (by omega) (Or.inr rfl) ?_) (rn_ge _ _ _ _ (e - (mo - 51)) 0 (by omega) (Or.inr rfl) hx' ?_)
      · rw [h5, Nat.pow_zero, Nat.mul_one]; exact Nat.le_refl _
      · rw [h5, Nat.pow_zero, Nat.mul_one]; exact Nat.le_refl _
    · have h5 : μ * 2 ^ (mo - 51) = mag (rg x) * 2 ^ (mo - 51 - e) := by rw [← h2, Nat.mul_assoc, ← Nat.pow_add, show e + (mo - 51 - e) = mo - 51 by omega]
      refine Nat.le_antisymm (rn_le _ _ _ _ 0 (mo - 51 - e) (by omega) (Or.inl rfl) ?_) (rn_ge _ _ _ _ 0 (mo - 51 - e) (by omega) (Or.inl rfl) hx' ?_)
      · rw [h5, Nat.pow_zero, Nat.mul_one]; exact Nat.le_refl _
      · rw [h5, Nat.pow_zero, Nat.mul_one]; exact Nat.le_refl _
  rw [hr]
  exact word_self x hl
/-- A product of two finite words whose values have one sign. -/
theorem mul_nonneg (x y : Nat) (hx : fin x) (hy : fin y) (h : (0 ≤ val x ∧ 0 ≤ val y) ∨ (val x ≤ 0 ∧ val y ≤ 0)) : isN (vop .mul x y) = false ∧ 0 ≤ keyI (vop .mul x y) := by
  obtain ⟨m, e, h1, h2⟩ := read_fin x hx
  obtain ⟨n, d, h3, h4⟩ := read_fin y hy
  have hv : vop .mul x y = F.word (ng x ^^ ng y) (rn (ng x ^^ ng y) (m * n) ((-1074 + (e : Int)) + (-1074 + (d : Int)))) := by
    show ((((F.read x).product (F.read y)).map F.write).getD _) = _
    rw [h1, h3]
    simp only [Ieee.Datum.product]
    show F.nearest _ _ _ = _
    rw [nearest_rn]
  rw [hv]
  refine ⟨word_not_nan _ _ (rn_le_inf ..), ?_⟩
  rw [key_word _ _ (rn_le_inf ..)]
  by_cases z : m * n = 0
  · have : rn (ng x ^^ ng y) (m * n) ((-1074 + (e : Int)) + (-1074 + (d : Int))) = 0 := by unfold rn; rw [if_pos z]
    rw [this]; unfold sg; cases (ng x ^^ ng y) <;> decide
  · have hm : 0 < mag (rg x) := by
      rw [← h2]; exact Nat.mul_pos (Nat.pos_of_ne_zero fun q => z (by rw [q, Nat.zero_mul])) (Nat.two_pow_pos _)
    have hn : 0 < mag (rg y) := by
      rw [← h4]; exact Nat.mul_pos (Nat.pos_of_ne_zero fun q => z (by rw [q, Nat.mul_zero])) (Nat.two_pow_pos _)
    have hs : (ng x ^^ ng y) = false := by
      unfold val at h
      cases a : ng x <;> cases b : ng y <;> rw [a, b] at h <;> simp only [Bool.false_eq_true, if_false, if_true] at h
      · rfl
      · omega
      · omega
      · rfl
    rw [hs]
    show (0 : Int) ≤ ((rn _ _ _ : Nat) : Int)
    omega
theorem key_zero : keyI 0 = 0 := rfl
theorem val_zero : val 0 = 0 := rfl
theorem val_pos (x : Nat) : 0 ≤ val x ↔ 0 ≤ keyI x := by have := val_key 0 x; rw [key_zero, val_zero] at this; exact this
theorem val_npos (x : Nat) : val x ≤ 0 ↔ keyI x ≤ 0 := by have := val_key x 0; rw [key_zero, val_zero] at this; exact this
theorem inf_pos {x : Nat} (hl : x < 18446744073709551616) (h : rg x = 9218868437227405312) (h0 : 0 ≤ keyI x) : x = 9218868437227405312 := by
  have w := word_self x hl
  unfold keyI at h0
  cases s : ng x with
  | true => rw [s, h] at h0; simp only [if_true] at h0; omega
  | false => rw [s, h] at w; rw [← w]; decide
theorem add_nonneg (x y : Nat) (lx : x < 18446744073709551616) (ly : y < 18446744073709551616) (hx : isN x = false) (hy : isN y = false) (h1 : 0 ≤ keyI x) (h2 : 0 ≤ keyI y) : isN (vop .add x y) = false ∧ 0 ≤ keyI (vop .add x y) := by
  rcases fin_or hx with a | a <;> rcases fin_or hy with b | b
  · refine ⟨add_num x y a b, ?_⟩
    have := add_ge x y 0 a b (by decide) (by rw [val_zero]; have := (val_pos x).2 h1; have := (val_pos y).2 h2; omega)
    rw [key_zero] at this; exact this
  · rw [vop_comm, inf_add y x ly b a]; exact ⟨hy, h2⟩
  · rw [inf_add x y lx a b]; exact ⟨hx, h1⟩
  · rw [inf_pos lx a h1, inf_pos ly b h2]; decide +kernel
/-- A quotient of what is not below nought, and a finite number above it. -/
theorem quo_nonneg (x y : Nat) (lx : x < 18446744073709551616) (hx : isN x = false) (h1 : 0 ≤ keyI x) (hy : fin y) (h0 : mag (rg y) ≠ 0) (hs : ng y = false) : isN (vop .quo x y) = false ∧ 0 ≤ keyI (vop .quo x y) := by
  rcases fin_or hx with a | a
  · obtain ⟨R, e, hR, hr⟩ := quo_rn x y a hy h0
    rw [e, hs, Bool.xor_false]
    refine ⟨word_not_nan _ _ hR, ?_⟩
    rw [key_word _ _ hR]
    cases s : ng x with
    | false => show (0 : Int) ≤ (R : Int); omega
    | true =>
      have hm : rg x = 0 := by unfold keyI at h1; rw [s] at h1; simp only [if_true] at h1; omega
      have := hr 0 (by rw [hm, mag_zero, Nat.zero_mul, Nat.zero_mul]; exact Nat.le_refl _)
      unfold sg
      simp only [if_true]
      omega
  · rw [inf_pos lx a h1]
    obtain ⟨n, d, h3, h4⟩ := read_fin y hy
    have w : F.write (.infinity false) = 9218868437227405312 := by decide +kernel
    have w2 : isN 9218868437227405312 = false := by decide
    have w3 : 0 ≤ keyI 9218868437227405312 := by decide
    have e1 : F.read 9218868437227405312 = .infinity false := by decide +kernel
    have e2 : Ieee.Datum.quotient 54 (.infinity false) (.number false n (-1074 + (d : Int))) = some (.infinity false) := rfl
    have e : vop .quo 9218868437227405312 y = 9218868437227405312 := by
      have e3 : floatBits .quo .f64 9218868437227405312 y = ((F.read 9218868437227405312).quotient 54 (F.read y)).map F.write := rfl
      unfold vop
      rw [e3, e1, h3, hs, e2, Option.map_some, w, Option.getD_some]
    rw [e]
    exact ⟨w2, w3⟩
theorem mag_half (r : Nat) (h : 2 ≤ r) : mag r ≤ 2 * mag (r - 1) := by
  rcases mag_form r with ⟨q, hq⟩ | ⟨k, f, hfl, hrk, hq⟩
  · have : mag (r - 1) = r - 1 := by unfold mag; rw [if_pos (by omega)]
    rw [hq, this]; omega
  · rw [hq]
    by_cases z : f = 0
    · subst z
      cases k with
      | zero =>
        have : mag (r - 1) = r - 1 := by unfold mag; rw [if_pos (by omega)]
        rw [this]; omega
      | succ k =>
        have : mag (r - 1) = 9007199254740991 * 2 ^ k := by
          unfold mag
          rw [if_neg (by omega), show (r - 1) % 4503599627370496 = 4503599627370495 by omega, show (r - 1) / 4503599627370496 - 1 = k by omega]
        rw [this, Nat.pow_succ]
        have := Nat.two_pow_pos k
        omega
    · have : mag (r - 1) = (4503599627370496 + (f - 1)) * 2 ^ k := by
        unfold mag
        rw [if_neg (by omega), show (r - 1) % 4503599627370496 = f - 1 by omega, show (r - 1) / 4503599627370496 - 1 = k by omega]
      rw [this, ← Nat.mul_assoc]
      exact Nat.mul_le_mul_right _ (by omega)
end Go.Proofs.Ytnhlfafdldpdgaa.Flt
