import Derived.Test.YtbdfdfahpdilpaaSum
/-! Layer 1: the sum's plain laws: a half byte's step is four bits' steps; each step is one to one. -/
namespace Go.Proofs.Ytbdfdfahpdilpaa.Slab
open Go Go.RowKit Go.Proofs.Ytbdfdfahpdilpaa.Arr Go.Proofs.YtbdfdfahpdilpaaW.PrintWords
set_option linter.unusedVariables false
theorem low_bit (c : B32) : c &&& 1#32 = if c.getLsbD 0 then 1#32 else 0#32 := by
  apply BitVec.eq_of_getLsbD_eq
  intro i hi
  rw [BitVec.getLsbD_and]
  by_cases h : i = 0
  · subst h
    cases hc : c.getLsbD 0 <;> simp
  · have : (1#32).getLsbD i = false := by
      rw [BitVec.getLsbD_one]
      simp [h]
    rw [this, Bool.and_false]
    cases hc : c.getLsbD 0
    · simp
    · simp [this]
theorem step_eq (c : B32) : step c = if c.getLsbD 0 then (c >>> 1) ^^^ poly else c >>> 1 := by
  unfold step
  rw [low_bit]
  cases c.getLsbD 0
  · simp
  · simp only [if_true]
    congr 1
theorem step_even (c : B32) (h : c.getLsbD 0 = false) : step c = c >>> 1 := by rw [step_eq, h]; rfl
theorem step_lin (a b : B32) : step (a ^^^ b) = step a ^^^ step b := by
  have hs : (a ^^^ b) >>> 1 = (a >>> 1) ^^^ (b >>> 1) := by
    apply BitVec.eq_of_getLsbD_eq; intro i hi; simp
  rw [step_eq, step_eq, step_eq, BitVec.getLsbD_xor, hs]
  have e : ∀ x y p : B32, x ^^^ p ^^^ (y ^^^ p) = x ^^^ y := by
    intro x y p
    apply BitVec.eq_of_getLsbD_eq; intro i hi
    simp only [BitVec.getLsbD_xor]
    cases x.getLsbD i <;> cases y.getLsbD i <;> cases p.getLsbD i <;> rfl
  have e1 : ∀ x y p : B32, x ^^^ y ^^^ p = x ^^^ p ^^^ y := fun x y p => by rw [BitVec.xor_assoc, BitVec.xor_comm y p, ← BitVec.xor_assoc]
  cases a.getLsbD 0 <;> cases b.getLsbD 0 <;> simp only [Bool.xor_false, Bool.xor_true, Bool.not_false, Bool.not_true, if_true, if_false, Bool.false_eq_true]
  · rw [BitVec.xor_assoc]
  · exact e1 _ _ _
  · exact (e _ _ _).symm
theorem steps_lin (k : Nat) (a b : B32) : steps k (a ^^^ b) = steps k a ^^^ steps k b := by
  induction k with
  | zero => rfl
  | succ k ih => show step (steps k (a ^^^ b)) = _; rw [ih, step_lin]; rfl
theorem steps_add (m k : Nat) (c : B32) : steps (m + k) c = steps m (steps k c) := by
  induction m with
  | zero => rw [Nat.zero_add]; rfl
  | succ m ih => rw [show m + 1 + k = (m + k) + 1 by omega]; show step (steps (m + k) c) = _; rw [ih]; rfl
theorem half_eq (x : B32) : half x = steps 4 x := by
  have hx : x = (x >>> 4 <<< 4) ^^^ (x &&& 15#32) := by
    apply BitVec.eq_of_getLsbD_eq; intro i hi
    simp only [BitVec.getLsbD_xor, BitVec.getLsbD_and, BitVec.getLsbD_shiftLeft, BitVec.getLsbD_ushiftRight]
    by_cases h : i < 4
    · have : (15#32).getLsbD i = true := by
        rcases (show i = 0 ∨ i = 1 ∨ i = 2 ∨ i = 3 by omega) with rfl | rfl | rfl | rfl <;> rfl
      simp [h, this]
    · have h15 : (15#32).getLsbD i = false := by
        have : (15 : Nat).testBit i = false := Nat.testBit_lt_two_pow (Nat.lt_of_lt_of_le (by decide : 15 < 2 ^ 4) (Nat.pow_le_pow_right (by decide) (by omega)))
        simp [BitVec.getLsbD_ofNat, this]
      have h15' : (15#32)[i] = false := by rw [← BitVec.getLsbD_eq_getElem]; exact h15
      simp [h, h15', hi, show 4 + (i - 4) = i by omega]
  have e1 : steps 4 (x >>> 4 <<< 4) = x >>> 4 := by
    have b : ∀ j, j < 4 → ((x >>> 4 <<< 4) >>> j).getLsbD 0 = false := by
      intro j hj; simp [hj]
    have c : ∀ j, j ≤ 4 → steps j (x >>> 4 <<< 4) = (x >>> 4 <<< 4) >>> j := by
      intro j
      induction j with
      | zero => intro _; simp [steps]
      | succ j ih =>
        intro hj
        show step (steps j _) = _
        rw [ih (by omega), step_even _ (b j (by omega)), ← BitVec.shiftRight_add]
    rw [c 4 (Nat.le_refl _)]
    apply BitVec.eq_of_getLsbD_eq; intro i hi
    simp
    intro h
    exact Classical.byContradiction fun q => by rw [BitVec.getLsbD_of_ge _ _ (by omega)] at h; cases h
  unfold half nib
  conv => rhs; rw [hx, steps_lin, e1]
theorem byteS_eq (c : B32) (b : UInt8) : byteS c b = steps 8 (c ^^^ b.toBitVec.zeroExtend 32) := by
  unfold byteS
  rw [half_eq, half_eq, ← steps_add]
theorem step_inj0 (c : B32) (h : step c = 0#32) : c = 0#32 := by
  rw [step_eq] at h
  have top : (c >>> 1).getLsbD 31 = false := by simp
  cases hc : c.getLsbD 0 with
  | true =>
    rw [hc, if_pos rfl] at h
    have := congrArg (fun x : B32 => x.getLsbD 31) h
    simp only [BitVec.getLsbD_xor, top] at this
    exact absurd this (by decide)
  | false =>
    rw [hc, if_neg (by decide)] at h
    apply BitVec.eq_of_getLsbD_eq
    intro i hi
    by_cases i0 : i = 0
    · subst i0; rw [hc]; simp
    · have := congrArg (fun x : B32 => x.getLsbD (i - 1)) h
      simp only [BitVec.getLsbD_ushiftRight, show 1 + (i - 1) = i by omega] at this
      rw [this]; simp
theorem xor_zero_eq {a b : B32} (h : a ^^^ b = 0#32) : a = b := by
  have : a ^^^ b ^^^ b = 0#32 ^^^ b := by rw [h]
  rwa [BitVec.xor_assoc, BitVec.xor_self, BitVec.xor_zero, BitVec.zero_xor] at this
theorem step_inj (a b : B32) (h : step a = step b) : a = b := by
  apply xor_zero_eq
  apply step_inj0
  rw [step_lin, h, BitVec.xor_self]
theorem steps_inj (k : Nat) (a b : B32) (h : steps k a = steps k b) : a = b := by
  induction k with
  | zero => exact h
  | succ k ih => exact ih (step_inj _ _ h)
theorem byteS_inj_c (a b : B32) (x : UInt8) (h : byteS a x = byteS b x) : a = b := by
  rw [byteS_eq, byteS_eq] at h
  have := steps_inj 8 _ _ h
  have e : a ^^^ BitVec.zeroExtend 32 x.toBitVec ^^^ BitVec.zeroExtend 32 x.toBitVec = b ^^^ BitVec.zeroExtend 32 x.toBitVec ^^^ BitVec.zeroExtend 32 x.toBitVec := by rw [this]
  rwa [BitVec.xor_assoc, BitVec.xor_self, BitVec.xor_zero, BitVec.xor_assoc, BitVec.xor_self, BitVec.xor_zero] at e
theorem byteS_inj_x (a : B32) (x y : UInt8) (h : byteS a x = byteS a y) : x = y := by
  rw [byteS_eq, byteS_eq] at h
  have := steps_inj 8 _ _ h
  rw [BitVec.xor_comm a, BitVec.xor_comm a] at this
  have e : BitVec.zeroExtend 32 x.toBitVec ^^^ a ^^^ a = BitVec.zeroExtend 32 y.toBitVec ^^^ a ^^^ a := by rw [this]
  rw [BitVec.xor_assoc, BitVec.xor_self, BitVec.xor_zero, BitVec.xor_assoc, BitVec.xor_self, BitVec.xor_zero] at e
  have e2 : (BitVec.setWidth 32 x.toBitVec).toNat = (BitVec.setWidth 32 y.toBitVec).toNat := congrArg BitVec.toNat e
  rw [BitVec.toNat_setWidth, BitVec.toNat_setWidth] at e2
  have hx := x.toBitVec.isLt; have hy := y.toBitVec.isLt
  apply UInt8.eq_of_toBitVec_eq
  apply BitVec.eq_of_toNat_eq
  omega
theorem fold_inj (l : List UInt8) (a b : B32) (h : l.foldl byteS a = l.foldl byteS b) : a = b := by
  induction l generalizing a b with
  | nil => exact h
  | cons x r ih => exact byteS_inj_c a b x (ih _ _ h)
/-- Texts that differ in one byte have unlike sums. -/
theorem crc_one (p q : List UInt8) (x y : UInt8) (c : B32) (h : (p ++ x :: q).foldl byteS c = (p ++ y :: q).foldl byteS c) : x = y := by
  rw [List.foldl_append, List.foldl_append] at h
  exact byteS_inj_x _ x y (fold_inj q _ _ h)
end Go.Proofs.Ytbdfdfahpdilpaa.Slab
