import Derived.Test.YtnhlfafdldpdgaaFlt6
/-! Layer 19: a mean of measures that aren't too great lies between the least and the greatest one. -/
namespace Go.Proofs.Ytnhlfafdldpdgaa.Pol
open Go Go.RowKit Go.Proofs.Ytnhlfafdldpdgaa.Flt Go.Proofs.Ytnhlfafdldpdgaa.Cell Go.Proofs.YtnhlfafdldpdgaaW.PrintWords
set_option linter.unusedVariables false
/-- A billion, two of them. -/
def V9 : Int := 1000000000 * (big : Int)
theorem w2_val : val (fi 2000000000) = V9 + V9 ∧ fin (fi 2000000000) := by
  have h := fi_fin 2000000000 (by decide)
  refine ⟨?_, h.2.2.1⟩
  rw [h.2.2.2]; unfold V9; omega
theorem key_abs (z : Nat) : (rg z : Int) = keyI z ∨ (rg z : Int) = -keyI z := by
  unfold keyI; cases ng z <;> simp
theorem fin_between {x lo hi : Nat} (hl : fin lo) (hh : fin hi) (h1 : keyI lo ≤ keyI x) (h2 : keyI x ≤ keyI hi) : fin x := by
  have a := key_abs x; have b := key_abs lo; have c := key_abs hi
  unfold fin at *
  omega
/-- What a difference is. -/
theorem sub_facts (x a : Nat) (la : a < 18446744073709551616) (hx : fin x) (ha : fin a) (bx : -V9 ≤ val x ∧ val x ≤ V9) (ba : -V9 ≤ val a ∧ val a ≤ V9) :
    fin (vop .sub x a) ∧ (∀ z, rg z ≤ 9218868437227405312 → val z ≤ val x - val a → keyI z ≤ keyI (vop .sub x a)) ∧ (∀ z, rg z ≤ 9218868437227405312 → val x - val a ≤ val z → keyI (vop .sub x a) ≤ keyI z) := by
  have hf := fin_neg la ha
  have hv := val_neg a la
  rw [sub_add x a la]
  have g1 : ∀ z, rg z ≤ 9218868437227405312 → val z ≤ val x - val a → keyI z ≤ keyI (vop .add x (Op.negFloat .f64 a)) := fun z hz h => add_ge x _ z hx hf hz (by rw [hv]; omega)
  have g2 : ∀ z, rg z ≤ 9218868437227405312 → val x - val a ≤ val z → keyI (vop .add x (Op.negFloat .f64 a)) ≤ keyI z := fun z hz h => add_le x _ z hx hf hz (by rw [hv]; omega)
  refine ⟨?_, g1, g2⟩
  obtain ⟨w1, w2⟩ := w2_val
  have lw := fi_lt 2000000000
  have hn := fin_neg lw w2
  have hnv := val_neg _ lw
  refine fin_between hn w2 (g1 _ (by unfold fin at hn; omega) (by rw [hnv, w1]; omega)) (g2 _ (by unfold fin at w2; omega) (by rw [w1]; omega))
theorem natAbs_mag (z : Nat) : (val z).natAbs = mag (rg z) := by unfold val; cases ng z <;> simp
/-- What is added to a mean lies between nought and the difference. -/
theorem part_facts (x a m : Nat) (la : a < 18446744073709551616) (hx : fin x) (ha : fin a) (bx : -V9 ≤ val x ∧ val x ≤ V9) (ba : -V9 ≤ val a ∧ val a ≤ V9) (h2 : 2 ≤ m) (hm : m ≤ 1000001) :
    fin (vop .quo (vop .sub x a) (fi (m : Int))) ∧ (0 ≤ val x - val a → 0 ≤ val (vop .quo (vop .sub x a) (fi (m : Int))) ∧ val (vop .quo (vop .sub x a) (fi (m : Int))) ≤ val x - val a) ∧ (val x - val a ≤ 0 → val (vop .quo (vop .sub x a) (fi (m : Int))) ≤ 0 ∧ val x - val a ≤ val (vop .quo (vop .sub x a) (fi (m : Int)))) := by
  obtain ⟨fd, g1, g2⟩ := sub_facts x a la hx ha bx ba
  generalize vop .sub x a = d at *
  generalize hD : val x - val a = D at *
  have fm := fi_fin (m : Int) (by omega)
  have nm : ng (fi (m : Int)) = false := by rw [fm.1]; exact decide_eq_false (by omega)
  have mm : mag (rg (fi (m : Int))) = m * big := by
    have := fm.2.2.2
    unfold val at this
    rw [nm] at this
    simp only [Bool.false_eq_true, if_false] at this
    have e : ((m * big : Nat) : Int) = (m : Int) * (big : Int) := Int.natCast_mul ..
    omega
  have bp := big_pos
  obtain ⟨R, hq, hR, hr⟩ := quo_rn d (fi (m : Int)) fd fm.2.2.1 (by rw [mm]; exact Nat.mul_ne_zero (by omega) (by omega))
  rw [nm, Bool.xor_false] at hq
  rw [hq]
  have hr2 : ∀ r, mag (rg d) ≤ mag r * m → R ≤ r := fun r h => hr r (by
    rw [mm, ← Nat.mul_assoc]; exact Nat.mul_le_mul_right _ h)
  have hw := word_ng (ng d) R (by omega)
  have hvq : val (F.word (ng d) R) = sg (ng d) (mag R) := by rw [val_sg, hw.1, hw.2]
  -- how far it is
  have hRd : R ≤ rg d := hr2 _ (Nat.le_mul_of_pos_right _ (by omega))
  have fd' : rg d < 9218868437227405312 := fd
  have habs : (mag R : Int) ≤ D.natAbs := by
    by_cases z : rg d = 0
    · have : R = 0 := by omega
      rw [this, mag_zero]; omega
    · by_cases c : mag (rg d) ≤ D.natAbs
      · have : mag R ≤ mag (rg d) := by
          rcases Nat.lt_or_eq_of_le hRd with q | q
          · exact Nat.le_of_lt (mag_mono _ _ q)
          · rw [q]; exact Nat.le_refl _
        omega
      · -- rounded up: the word below
        have hp := word_ng (ng d) (rg d - 1) (by omega)
        have hpv : val (F.word (ng d) (rg d - 1)) = sg (ng d) (mag (rg d - 1)) := by rw [val_sg, hp.1, hp.2]
        have hpk : keyI (F.word (ng d) (rg d - 1)) = sg (ng d) ((rg d - 1 : Nat) : Int) := by rw [key_sg, hp.1, hp.2]
        have hdk : keyI d = sg (ng d) (rg d : Int) := key_sg d
        have hlow : mag (rg d - 1) < D.natAbs := by
          refine Nat.lt_of_not_le fun q => ?_
          cases s : ng d with
          | false =>
            rw [s] at hpv hpk hdk
            have hpv : val (F.word false (rg d - 1)) = (mag (rg d - 1) : Int) := hpv
            have hpk : keyI (F.word false (rg d - 1)) = ((rg d - 1 : Nat) : Int) := hpk
            have hdk : keyI d = (rg d : Int) := hdk
            have := g2 (F.word false (rg d - 1)) (by rw [(word_ng false _ (by omega)).2]; omega) (by rw [hpv]; omega)
            omega
          | true =>
            rw [s] at hpv hpk hdk
            have hpv : val (F.word true (rg d - 1)) = -(mag (rg d - 1) : Int) := hpv
            have hpk : keyI (F.word true (rg d - 1)) = -((rg d - 1 : Nat) : Int) := hpk
            have hdk : keyI d = -(rg d : Int) := hdk
            have := g1 (F.word true (rg d - 1)) (by rw [(word_ng true _ (by omega)).2]; omega) (by rw [hpv]; omega)
            omega
        have h2d : 2 ≤ rg d := by
          refine Nat.le_of_not_lt fun q => ?_
          have e1 : rg d = 1 := by omega
          rw [e1] at hlow c
          have z1 : mag 1 = 1 := rfl
          have z0 : mag (1 - 1) = 0 := rfl
          omega
        have hhalf := mag_half (rg d) h2d
        have hRp : R ≤ rg d - 1 := hr2 _ (Nat.le_trans hhalf (by rw [Nat.mul_comm]; exact Nat.mul_le_mul_left _ h2))
        have : mag R ≤ mag (rg d - 1) := by
          rcases Nat.lt_or_eq_of_le hRp with q | q
          · exact Nat.le_of_lt (mag_mono _ _ q)
          · rw [q]; exact Nat.le_refl _
        omega
  have hsign : (0 ≤ D → 0 ≤ val (F.word (ng d) R)) ∧ (D ≤ 0 → val (F.word (ng d) R) ≤ 0) := by
    rw [hvq]
    have k0 : rg 0 ≤ 9218868437227405312 := by decide
    constructor
    · intro h
      have := g1 0 k0 (by rw [val_zero]; exact h)
      rw [key_zero, key_sg] at this
      cases s : ng d with
      | false => show (0 : Int) ≤ (mag R : Int); omega
      | true =>
        rw [s] at this
        have this : (0 : Int) ≤ -(rg d : Int) := this
        have : R = 0 := by omega
        rw [this]; decide
    · intro h
      have := g2 0 k0 (by rw [val_zero]; exact h)
      rw [key_zero, key_sg] at this
      cases s : ng d with
      | true => show -(mag R : Int) ≤ 0; omega
      | false =>
        rw [s] at this
        have this : (rg d : Int) ≤ 0 := this
        have : R = 0 := by omega
        rw [this]; decide
  have hmr : (val (F.word (ng d) R)).natAbs = mag R := by rw [natAbs_mag, hw.2]
  refine ⟨by unfold fin; rw [hw.2]; omega, fun h => ⟨hsign.1 h, ?_⟩, fun h => ⟨hsign.2 h, ?_⟩⟩
  · have := hsign.1 h; omega
  · have := hsign.2 h; omega
/-- A step of a mean stays between it and the measure; what is added to the sum is not below nought. -/
theorem step_facts (x a m : Nat) (lx : x < 18446744073709551616) (la : a < 18446744073709551616) (hx : fin x) (ha : fin a) (bx : -V9 ≤ val x ∧ val x ≤ V9) (ba : -V9 ≤ val a ∧ val a ≤ V9) (h2 : 2 ≤ m) (hm : m ≤ 1000001) (a' : Nat) (he : a' = vop .add a (vop .quo (vop .sub x a) (fi (m : Int)))) :
    fin a' ∧ ((val a ≤ val a' ∧ val a' ≤ val x) ∨ (val x ≤ val a' ∧ val a' ≤ val a)) ∧ isN (vop .mul (vop .sub x a) (vop .sub x a')) = false ∧ 0 ≤ keyI (vop .mul (vop .sub x a) (vop .sub x a')) := by
  obtain ⟨fd, g1, g2⟩ := sub_facts x a la hx ha bx ba
  obtain ⟨fq, p1, p2⟩ := part_facts x a m la hx ha bx ba h2 hm
  have la' : a' < 18446744073709551616 := by rw [he]; exact vop_lt _ _ _
  have rx : rg x ≤ 9218868437227405312 := Nat.le_of_lt hx
  have ra : rg a ≤ 9218868437227405312 := Nat.le_of_lt ha
  have k0 : rg 0 ≤ 9218868437227405312 := by decide
  generalize vop .quo (vop .sub x a) (fi (m : Int)) = q at *
  rcases Int.le_total (val a) (val x) with c | c
  · obtain ⟨q1, q2⟩ := p1 (by omega)
    have b1 : keyI a ≤ keyI a' := by rw [he]; exact add_ge a q a ha fq ra (by omega)
    have b2 : keyI a' ≤ keyI x := by rw [he]; exact add_le a q x ha fq rx (by omega)
    have fa' := fin_between ha hx b1 b2
    have v1 := (val_key _ _).2 b1
    have v2 := (val_key _ _).2 b2
    obtain ⟨fe, e1, e2⟩ := sub_facts x a' la' hx fa' bx ⟨by omega, by omega⟩
    have w1 := g1 0 k0 (by rw [val_zero]; omega)
    have w2 := e1 0 k0 (by rw [val_zero]; omega)
    rw [key_zero] at w1 w2
    exact ⟨fa', Or.inl ⟨v1, v2⟩, mul_nonneg _ _ fd fe (Or.inl ⟨(val_pos _).2 w1, (val_pos _).2 w2⟩)⟩
  · obtain ⟨q1, q2⟩ := p2 (by omega)
    have b1 : keyI a' ≤ keyI a := by rw [he]; exact add_le a q a ha fq ra (by omega)
    have b2 : keyI x ≤ keyI a' := by rw [he]; exact add_ge a q x ha fq rx (by omega)
    have fa' := fin_between hx ha b2 b1
    have v1 := (val_key _ _).2 b1
    have v2 := (val_key _ _).2 b2
    obtain ⟨fe, e1, e2⟩ := sub_facts x a' la' hx fa' bx ⟨by omega, by omega⟩
    have w1 := g2 0 k0 (by rw [val_zero]; omega)
    have w2 := e2 0 k0 (by rw [val_zero]; omega)
    rw [key_zero] at w1 w2
    exact ⟨fa', Or.inr ⟨v2, v1⟩, mul_nonneg _ _ fd fe (Or.inr ⟨(val_npos _).2 w1, (val_npos _).2 w2⟩)⟩
end Go.Proofs.Ytnhlfafdldpdgaa.Pol
