import Derived.Test.YtnhlfafdldpdgaaFlt4
/-! Floats: quotients and products keep their signs and bounds. -/
namespace Go.Proofs.Ytnhlfafdldpdgaa.Flt
open Go Go.RowKit Go.Proofs.Ytnhlfafdldpdgaa.Cell Go.Proofs.YtnhlfafdldpdgaaW.PrintWords
set_option linter.unusedVariables false
theorem dvd_lt {x y g : Nat} (hx : g ∣ x) (hy : g ∣ y) (h : x < y) : x + g ≤ y := by
  obtain ⟨p, rfl⟩ := hx
  obtain ⟨q, rfl⟩ := hy
  have hp : p < q := by
    refine Nat.lt_of_not_le fun c => ?_
    have := Nat.mul_le_mul_left g c; omega
  have := Nat.mul_le_mul_left g (show p + 1 ≤ q by omega)
  rw [Nat.mul_add, Nat.mul_one] at this
  exact this
/-- A rung's magnitude above 2 ^ (53 + g) is a multiple of 2 ^ g. -/
theorem mag_dvd (r g : Nat) (h : 2 ^ (53 + g) < mag r) : 2 ^ g ∣ mag r := by
  rcases mag_form r with ⟨q, hq⟩ | ⟨k, f, hfl, hrk, hq⟩
  · rw [hq] at h
    have : 2 ^ 52 ≤ 2 ^ (53 + g) := Nat.pow_le_pow_right (by decide) (by omega)
    have e : (2 : Nat) ^ 52 = 4503599627370496 := rfl
    omega
  · rw [hq] at h ⊢
    have h2 : 2 ^ (53 + g) < 2 ^ (53 + k) := by
      refine Nat.lt_trans h ?_
      rw [Nat.pow_add]
      exact Nat.mul_lt_mul_of_pos_right (by show _ < 9007199254740992; omega) (Nat.two_pow_pos _)
    have h3 := pow_lt_imp h2
    exact Nat.dvd_trans (Nat.pow_dvd_pow 2 (by omega)) (Nat.dvd_mul_left ..)
theorem rem_cast (x : Nat) : (x != 0).toNat = if x = 0 then 0 else 1 := by
  by_cases h : x = 0
  · subst h; rfl
  · rw [if_neg h]
    have : (x != 0) = true := by simpa using h
    rw [this]; rfl
/-- The quotient of a finite word and a finite one that is no zero: its sign, and its rung by what it is a quotient of. -/
theorem quo_rn (x y : Nat) (hx : fin x) (hy : fin y) (h0 : mag (rg y) ≠ 0) : ∃ R, vop .quo x y = F.word (ng x ^^ ng y) R ∧ R ≤ 9218868437227405312 ∧ ∀ r, mag (rg x) * big ≤ mag r * mag (rg y) → R ≤ r := by
  obtain ⟨μ, e, h1, h2⟩ := read_fin x hx
  obtain ⟨ν, d, h3, h4⟩ := read_fin y hy
  have hν : ν ≠ 0 := fun q => h0 (by rw [← h4, q, Nat.zero_mul])
  obtain ⟨mo, hmo⟩ : ∃ mo, 54 + ν.log2 - μ.log2 = mo := ⟨_, rfl⟩
  obtain ⟨M, hM⟩ : ∃ M, 2 * ((μ <<< mo) / ν) + ((μ <<< mo) % ν != 0).toNat = M := ⟨_, rfl⟩
  have hv : vop .quo x y = F.word (ng x ^^ ng y) (rn (ng x ^^ ng y) M ((-1074 + (e : Int)) - (-1074 + (d : Int)) - mo - 1)) := by
    show ((((F.read x).quotient 54 (F.read y)).map F.write).getD _) = _
    rw [h1, h3]
    simp only [Ieee.Datum.quotient]
    rw [if_neg hν]
    simp only [hmo, hM]
    show F.nearest _ _ _ = _
    rw [nearest_rn]
  refine ⟨_, hv, rn_le_inf .., fun r hr => ?_⟩
  rw [← h2, ← h4] at hr
  rw [Nat.shiftLeft_eq] at hM
  by_cases hμ : μ = 0
  · subst hμ
    rw [Nat.zero_mul, Nat.zero_div, Nat.zero_mod] at hM
    have : M = 0 := by rw [← hM]; rfl
    subst this
    unfold rn; rw [if_pos rfl]; exact Nat.zero_le _
  obtain ⟨Q, hQ⟩ : ∃ Q, μ * 2 ^ mo / ν = Q := ⟨_, rfl⟩
  obtain ⟨ρ, hρ⟩ : ∃ ρ, μ * 2 ^ mo % ν = ρ := ⟨_, rfl⟩
  have hdm := Nat.div_add_mod (μ * 2 ^ mo) ν
  rw [hQ, hρ] at hdm hM
  -- the sum's two sides, without their common factor
  obtain ⟨X, hX⟩ : ∃ X, X = e + 1074 := ⟨_, rfl⟩
  obtain ⟨Z, hZ⟩ : ∃ Z, Z = d + mo := ⟨_, rfl⟩
  have key : (ν * Q + ρ) * 2 ^ X ≤ mag r * ν * 2 ^ Z := by
    rw [hdm]
    have hb : big = 2 ^ 1074 := (bigE_of 1074 1074 rfl).symm
    calc μ * 2 ^ mo * 2 ^ X = μ * 2 ^ e * big * 2 ^ mo := by
          rw [hb, hX, Nat.pow_add]
          generalize 2 ^ 1074 = B
          generalize 2 ^ e = E
          generalize 2 ^ mo = O
          rw [Nat.mul_assoc, Nat.mul_assoc, Nat.mul_assoc, Nat.mul_comm O, Nat.mul_assoc]
      _ ≤ mag r * (ν * 2 ^ d) * 2 ^ mo := Nat.mul_le_mul_right _ hr
      _ = mag r * ν * 2 ^ Z := by rw [hZ, Nat.pow_add, ← Nat.mul_assoc, ← Nat.mul_assoc]
  have hνp : 0 < ν := Nat.pos_of_ne_zero hν
  have hQX : Q * 2 ^ X ≤ mag r * 2 ^ Z := by
    refine Nat.le_of_mul_le_mul_left ?_ hνp
    calc ν * (Q * 2 ^ X) = ν * Q * 2 ^ X := (Nat.mul_assoc ..).symm
      _ ≤ (ν * Q + ρ) * 2 ^ X := Nat.mul_le_mul_right _ (Nat.le_add_right ..)
      _ ≤ mag r * ν * 2 ^ Z := key
      _ = ν * (mag r * 2 ^ Z) := by rw [Nat.mul_comm (mag r) ν, Nat.mul_assoc]
  have goal : M * 2 ^ X ≤ mag r * 2 ^ (Z + 1) := by
    rw [Nat.pow_succ, ← Nat.mul_assoc]
    rw [rem_cast] at hM
    by_cases hz : ρ = 0
    · rw [if_pos hz] at hM
      rw [← hM, Nat.add_zero, Nat.mul_comm 2 Q, Nat.mul_assoc, Nat.mul_comm 2, ← Nat.mul_assoc]
      exact Nat.mul_le_mul_right _ hQX
    · rw [if_neg hz] at hM
      have hlt : Q * 2 ^ X < mag r * 2 ^ Z := by
        refine Nat.lt_of_mul_lt_mul_left (a := ν) ?_
        calc ν * (Q * 2 ^ X) = ν * Q * 2 ^ X := (Nat.mul_assoc ..).symm
          _ < (ν * Q + ρ) * 2 ^ X := Nat.mul_lt_mul_of_pos_right (by omega) (Nat.two_pow_pos _)
          _ ≤ mag r * ν * 2 ^ Z := key
          _ = ν * (mag r * 2 ^ Z) := by rw [Nat.mul_comm (mag r) ν, Nat.mul_assoc]
      have hdv : 2 ^ X ∣ mag r * 2 ^ Z := by
        by_cases c : X ≤ Z
        · exact Nat.dvd_trans (Nat.pow_dvd_pow 2 c) (Nat.dvd_mul_left ..)
        · obtain ⟨g, hg⟩ : ∃ g, X = Z + g := ⟨X - Z, by omega⟩
          have hQ53 : 2 ^ 53 ≤ Q := by
            rw [← hQ]
            refine (Nat.le_div_iff_mul_le hνp).2 ?_
            have l1 : 2 ^ μ.log2 ≤ μ := (Nat.le_log2 hμ).1 (Nat.le_refl _)
            have l2 := lt_log2 ν
            refine Nat.le_trans (Nat.le_of_lt (Nat.mul_lt_mul_of_pos_left l2 (Nat.two_pow_pos 53))) ?_
            rw [← Nat.pow_add]
            refine Nat.le_trans (Nat.pow_le_pow_right (by decide) (show 53 + (ν.log2 + 1) ≤ μ.log2 + mo by omega)) ?_
            rw [Nat.pow_add]
            exact Nat.mul_le_mul_right _ l1
          rw [hg, Nat.pow_add] at hlt ⊢
          have hT : 2 ^ (53 + g) < mag r := by
            refine Nat.lt_of_mul_lt_mul_right (a := 2 ^ Z) ?_
            refine Nat.lt_of_le_of_lt ?_ hlt
            rw [Nat.pow_add, Nat.mul_assoc, Nat.mul_comm (2 ^ g)]
            exact Nat.mul_le_mul_right _ hQ53
          rw [Nat.mul_comm (2 ^ Z)]
          exact Nat.mul_dvd_mul_right (mag_dvd r g hT) _
      have := dvd_lt (Nat.dvd_mul_left (2 ^ X) Q) hdv hlt
      rw [← hM]
      have e1 : (2 * Q + 1) * 2 ^ X = 2 * (Q * 2 ^ X) + 2 ^ X := by rw [Nat.add_mul, Nat.one_mul, Nat.mul_assoc]
      rw [e1]
      omega
  -- the rung
  by_cases c : Z + 1 ≤ X
  · refine rn_le _ _ _ r (X - (Z + 1)) 0 (by omega) (Or.inr rfl) ?_
    rw [Nat.pow_zero, Nat.mul_one]
    refine Nat.le_of_mul_le_mul_right ?_ (Nat.two_pow_pos (Z + 1))
    rw [Nat.mul_assoc, ← Nat.pow_add, Nat.sub_add_cancel c]
    exact goal
  · refine rn_le _ _ _ r 0 (Z + 1 - X) (by omega) (Or.inl rfl) ?_
    rw [Nat.pow_zero, Nat.mul_one]
    refine Nat.le_of_mul_le_mul_right ?_ (Nat.two_pow_pos X)
    rw [Nat.mul_assoc, ← Nat.pow_add, Nat.sub_add_cancel (by omega)]
    exact goal
end Go.Proofs.Ytnhlfafdldpdgaa.Flt
