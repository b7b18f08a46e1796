import Derived.Laws.FloatArith
import Derived.WalkLawsBesides
import Derived.Test.YtnhlfafdldpdgaaWMore
import Derived.Test.YtnhlfafdldpdgaaWLast
/-! Floats by their words: order, the canonical NaN, the four operations. -/
namespace Go.Proofs.Ytnhlfafdldpdgaa.Flt
open Go Go.RowKit Go.Proofs.YtnhlfafdldpdgaaW.PrintWords
set_option linter.unusedVariables false
set_option linter.unusedSimpArgs false
abbrev F := FloatKind.f64.format
/-- Is it no number? -/
def isN (b : Nat) : Bool := decide (9218868437227405312 < b % 9223372036854775808)
/-- All NaN one. -/
def cn (b : Nat) : Nat := if isN b then 9221120237041090560 else b
theorem sw : F.signWeight = 9223372036854775808 := by decide
theorem bi : F.binade = 4503599627370496 := by decide
theorem ir : F.infRung = 9218868437227405312 := by decide
theorem lp : F.leastPlace = -1074 := by decide
theorem read_eq (b : Nat) : F.read b = if b % 9223372036854775808 < 4503599627370496 then .number (b / 9223372036854775808 % 2 == 1) (b % 9223372036854775808) (-1074)
    else if b % 9223372036854775808 < 9218868437227405312 then .number (b / 9223372036854775808 % 2 == 1) (4503599627370496 + b % 9223372036854775808 % 4503599627370496) (-1074 + (b % 9223372036854775808 / 4503599627370496 - 1 : Nat))
    else if b % 9223372036854775808 = 9218868437227405312 then .infinity (b / 9223372036854775808 % 2 == 1)
    else .nan (b / 9223372036854775808 % 2 == 1) (b % 9223372036854775808 - 9218868437227405312) := by
  unfold Ieee.Format.read
  rw [sw, bi, ir, lp]
/-- The magnitude of a rung, in units of the least place. -/
def mag (r : Nat) : Nat := if r < 4503599627370496 then r else (4503599627370496 + r % 4503599627370496) * 2 ^ (r / 4503599627370496 - 1)
theorem mag_mono (a b : Nat) (h : a < b) : mag a < mag b := by
  unfold mag
  by_cases hb : b < 4503599627370496
  · rw [if_pos hb, if_pos (by omega)]; exact h
  · rw [if_neg hb]
    have p := Nat.two_pow_pos (b / 4503599627370496 - 1)
    have q : (4503599627370496 + b % 4503599627370496) * 1 ≤ (4503599627370496 + b % 4503599627370496) * 2 ^ (b / 4503599627370496 - 1) := Nat.mul_le_mul_left _ p
    by_cases ha : a < 4503599627370496
    · rw [if_pos ha]; omega
    · rw [if_neg ha]
      have e : a / 4503599627370496 ≤ b / 4503599627370496 := Nat.div_le_div_right (by omega)
      by_cases c : a / 4503599627370496 = b / 4503599627370496
      · rw [c]
        exact Nat.mul_lt_mul_of_pos_right (by omega) p
      · have e2 : a / 4503599627370496 ≤ b / 4503599627370496 - 1 := by omega
        have e3 : 2 ^ (a / 4503599627370496) ≤ 2 ^ (b / 4503599627370496 - 1) := Nat.pow_le_pow_right (by omega) e2
        have e4 : 2 ^ (a / 4503599627370496) = 2 ^ (a / 4503599627370496 - 1) * 2 := by
          rw [← Nat.pow_succ]; congr 1; omega
        have e5 : (4503599627370496 + a % 4503599627370496) * 2 ^ (a / 4503599627370496 - 1) < 9007199254740992 * 2 ^ (a / 4503599627370496 - 1) := Nat.mul_lt_mul_of_pos_right (by omega) (Nat.two_pow_pos _)
        have e6 : 4503599627370496 * 2 ^ (b / 4503599627370496 - 1) ≤ (4503599627370496 + b % 4503599627370496) * 2 ^ (b / 4503599627370496 - 1) := Nat.mul_le_mul_right _ (by omega)
        generalize 2 ^ (a / 4503599627370496 - 1) = x at *
        generalize 2 ^ (b / 4503599627370496 - 1) = y at *
        generalize 2 ^ (a / 4503599627370496) = z at *
        omega
theorem mag_zero : mag 0 = 0 := rfl
/-- Sign and rung. -/
def ng (b : Nat) : Bool := b / 9223372036854775808 % 2 == 1
def rg (b : Nat) : Nat := b % 9223372036854775808
/-- What a finite word stands for, in units of the least place. -/
def val (b : Nat) : Int := if ng b then -(mag (rg b) : Int) else (mag (rg b) : Int)
/-- A number's place in the row of all (the zeros alike). -/
def keyI (b : Nat) : Int := if ng b then -(rg b : Int) else (rg b : Int)
theorem read_fin (b : Nat) (h : rg b < 9218868437227405312) : ∃ m e : Nat, F.read b = .number (ng b) m (-1074 + (e : Int)) ∧ m * 2 ^ e = mag (rg b) := by
  rw [read_eq]
  unfold mag
  unfold rg at *
  by_cases c : b % 9223372036854775808 < 4503599627370496
  · rw [if_pos c, if_pos c]
    exact ⟨_, 0, rfl, by rw [Nat.pow_zero, Nat.mul_one]⟩
  · rw [if_neg c, if_neg c, if_pos h]
    exact ⟨_, _, rfl, rfl⟩
theorem read_inf (b : Nat) (h : rg b = 9218868437227405312) : F.read b = .infinity (ng b) := by
  rw [read_eq]
  unfold rg at h
  rw [if_neg (by omega), if_neg (by omega), if_pos h]
  rfl
theorem read_nan (b : Nat) (h : isN b = true) : ∃ t, F.read b = .nan (ng b) t := by
  rw [read_eq]
  unfold isN at h
  have h := of_decide_eq_true h
  rw [if_neg (by omega), if_neg (by omega), if_neg (by omega)]
  exact ⟨_, rfl⟩
theorem not_nan {b : Nat} (h : isN b = false) : rg b ≤ 9218868437227405312 := by
  unfold isN at h
  have := of_decide_eq_false h
  unfold rg
  omega
theorem scale (s : Bool) (m : Nat) (e : Nat) (k : Int) (h0 : -1074 ≤ k) (h : k ≤ -1074 + (e : Int)) : Ieee.signed s m (-1074 + (e : Int) - k).toNat * 2 ^ (k + 1074).toNat = if s then -((m * 2 ^ e : Nat) : Int) else ((m * 2 ^ e : Nat) : Int) := by
  unfold Ieee.signed
  have e1 : (-1074 + (e : Int) - k).toNat + (k + 1074).toNat = e := by omega
  have e2 : ((m <<< (-1074 + (e : Int) - k).toNat : Nat) : Int) * 2 ^ (k + 1074).toNat = ((m * 2 ^ e : Nat) : Int) := by
    conv => rhs; rw [← e1, Nat.pow_add, ← Nat.mul_assoc]
    rw [Nat.shiftLeft_eq]
    push_cast
    rfl
  cases s
  · simpa using e2
  · simp only [if_true, Int.neg_mul, e2]
theorem cmp_scale (a b : Int) (c : Int) (h : 0 < c) : compare (a * c) (b * c) = compare a b := by
  rcases Int.lt_trichotomy a b with g | g | g
  · rw [Int.compare_eq_lt.2 g, Int.compare_eq_lt.2 (Int.mul_lt_mul_of_pos_right g h)]
  · subst g; rw [Int.compare_eq_eq.2 rfl, Int.compare_eq_eq.2 rfl]
  · rw [Int.compare_eq_gt.2 g, Int.compare_eq_gt.2 (Int.mul_lt_mul_of_pos_right g h)]
theorem order_fin (x y : Nat) (hx : rg x < 9218868437227405312) (hy : rg y < 9218868437227405312) : F.order x y = some (compare (val x) (val y)) := by
  obtain ⟨m, e, h1, h2⟩ := read_fin x hx
  obtain ⟨n, d, h3, h4⟩ := read_fin y hy
  unfold Ieee.Format.order
  rw [h1, h3]
  simp only [Ieee.Datum.order]
  congr 1
  have hk0 : -1074 ≤ min (-1074 + (e : Int)) (-1074 + (d : Int)) := by omega
  rw [← cmp_scale _ _ (2 ^ (min (-1074 + (e : Int)) (-1074 + (d : Int)) + 1074).toNat) (Int.pow_pos (by decide)), scale _ _ _ _ hk0 (Int.min_le_left ..), scale _ _ _ _ hk0 (Int.min_le_right ..), h2, h4]
  rfl
theorem val_lt (x y : Nat) : val x < val y ↔ keyI x < keyI y := by
  unfold val keyI
  have m := mag_mono (rg x) (rg y)
  have n := mag_mono (rg y) (rg x)
  have z := mag_mono 0 (rg x)
  have z2 := mag_mono 0 (rg y)
  rw [mag_zero] at z z2
  have q : rg x = rg y → mag (rg x) = mag (rg y) := congrArg mag
  have q1 : rg x = 0 → mag (rg x) = 0 := fun h => by rw [h]; rfl
  have q2 : rg y = 0 → mag (rg y) = 0 := fun h => by rw [h]; rfl
  generalize mag (rg x) = a at *
  generalize mag (rg y) = b at *
  cases ng x <;> cases ng y <;> simp <;> omega
theorem cmp_of {a b c d : Int} (h : a < b ↔ c < d) (h2 : b < a ↔ d < c) : compare a b = compare c d := by
  rcases Int.lt_trichotomy a b with g | g | g
  · rw [Int.compare_eq_lt.2 g, Int.compare_eq_lt.2 (h.1 g)]
  · rw [Int.compare_eq_eq.2 g, Int.compare_eq_eq.2 (by omega)]
  · rw [Int.compare_eq_gt.2 g, Int.compare_eq_gt.2 (h2.1 g)]
/-- Two numbers stand to each other as their keys. -/
theorem order_num (x y : Nat) (hx : isN x = false) (hy : isN y = false) : F.order x y = some (compare (keyI x) (keyI y)) := by
  have hx := not_nan hx
  have hy := not_nan hy
  by_cases cx : rg x = 9218868437227405312
  · unfold Ieee.Format.order
    rw [read_inf x cx]
    by_cases cy : rg y = 9218868437227405312
    · rw [read_inf y cy]
      simp only [Ieee.Datum.order]
      unfold keyI
      rw [cx, cy]
      cases ng x <;> cases ng y <;> rfl
    · obtain ⟨n, d, h3, h4⟩ := read_fin y (by omega)
      rw [h3]
      simp only [Ieee.Datum.order]
      congr 1
      unfold keyI
      rw [cx]
      cases ng x <;> cases ng y <;> simp only [Bool.false_eq_true, if_false, if_true] <;> symm <;> first | (apply Int.compare_eq_gt.2; omega) | (apply Int.compare_eq_lt.2; omega)
  · by_cases cy : rg y = 9218868437227405312
    · unfold Ieee.Format.order
      rw [read_inf y cy]
      obtain ⟨n, d, h3, h4⟩ := read_fin x (by omega)
      rw [h3]
      simp only [Ieee.Datum.order]
      congr 1
      unfold keyI
      rw [cy]
      cases ng x <;> cases ng y <;> simp only [Bool.false_eq_true, if_false, if_true] <;> symm <;> first | (apply Int.compare_eq_gt.2; omega) | (apply Int.compare_eq_lt.2; omega)
    · rw [order_fin x y (by omega) (by omega)]
      exact congrArg some (cmp_of (val_lt x y) (val_lt y x))
theorem order_nan_l (x y : Nat) (h : isN x = true) : F.order x y = none := by
  obtain ⟨t, e⟩ := read_nan x h
  unfold Ieee.Format.order
  rw [e]; cases F.read y <;> rfl
theorem order_nan_r (x y : Nat) (h : isN y = true) : F.order x y = none := by
  obtain ⟨t, e⟩ := read_nan y h
  unfold Ieee.Format.order
  rw [e]; cases F.read x <;> rfl
theorem lss_eq (x y : Nat) : (F.order x y == some .lt) = (!isN x && (!isN y && decide (keyI x < keyI y))) := by
  cases hx : isN x with
  | true => rw [order_nan_l x y hx]; rfl
  | false =>
    cases hy : isN y with
    | true => rw [order_nan_r x y hy]; rfl
    | false =>
      rw [order_num x y hx hy]
      rcases Int.lt_trichotomy (keyI x) (keyI y) with g | g | g
      · rw [Int.compare_eq_lt.2 g, decide_eq_true g]; rfl
      · rw [Int.compare_eq_eq.2 g, decide_eq_false (by omega)]; rfl
      · rw [Int.compare_eq_gt.2 g, decide_eq_false (by omega)]; rfl
theorem gtr_eq (x y : Nat) : (F.order x y == some .gt) = (!isN x && (!isN y && decide (keyI y < keyI x))) := by
  cases hx : isN x with
  | true => rw [order_nan_l x y hx]; rfl
  | false =>
    cases hy : isN y with
    | true => rw [order_nan_r x y hy]; rfl
    | false =>
      rw [order_num x y hx hy]
      rcases Int.lt_trichotomy (keyI x) (keyI y) with g | g | g
      · rw [Int.compare_eq_lt.2 g, decide_eq_false (by omega)]; rfl
      · rw [Int.compare_eq_eq.2 g, decide_eq_false (by omega)]; rfl
      · rw [Int.compare_eq_gt.2 g, decide_eq_true g]; rfl
theorem eql_eq (x y : Nat) : (F.order x y == some .eq) = (!isN x && (!isN y && decide (keyI x = keyI y))) := by
  cases hx : isN x with
  | true => rw [order_nan_l x y hx]; rfl
  | false =>
    cases hy : isN y with
    | true => rw [order_nan_r x y hy]; rfl
    | false =>
      rw [order_num x y hx hy]
      rcases Int.lt_trichotomy (keyI x) (keyI y) with g | g | g
      · rw [Int.compare_eq_lt.2 g, decide_eq_false (by omega)]; rfl
      · rw [Int.compare_eq_eq.2 g, decide_eq_true g]; rfl
      · rw [Int.compare_eq_gt.2 g, decide_eq_false (by omega)]; rfl
/-- 'f != f'. -/
theorem neq_self (x : Nat) : (F.order x x != some .eq) = isN x := by
  show (!(F.order x x == some .eq)) = _
  rw [eql_eq]
  cases isN x <;> simp
theorem word_num (s : Bool) (r : Nat) (h : r ≤ 9218868437227405312) : isN (F.word s r) = false ∧ F.word s r < 18446744073709551616 := by
  unfold Ieee.Format.word isN
  rw [sw]
  cases s
  · simp only [Bool.false_eq_true, if_false]
    exact ⟨decide_eq_false (by omega), by omega⟩
  · simp only [if_true]
    exact ⟨decide_eq_false (by omega), by omega⟩
theorem nearest_num (s : Bool) (m : Nat) (p : Int) : isN (F.nearest s m p) = false ∧ F.nearest s m p < 18446744073709551616 := by
  unfold Ieee.Format.nearest
  dsimp only
  split
  · exact word_num _ _ (by omega)
  · exact word_num _ _ (Nat.le_trans (Nat.min_le_right ..) (by rw [ir]; exact Nat.le_refl _))
theorem write_num (d : Ieee.Datum) (h : d.isNaN = false) : isN (F.write d) = false ∧ F.write d < 18446744073709551616 := by
  cases d with
  | number s m p => exact nearest_num s m p
  | infinity s => exact word_num s _ (by rw [ir]; exact Nat.le_refl _)
  | nan s t => cases h
theorem sum_num {x y d : Ieee.Datum} (h : x.sum y = some d) : d.isNaN = false := by
  cases x <;> cases y <;> simp only [Ieee.Datum.sum] at h <;> first | (cases h; done) | (split at h <;> cases h <;> rfl) | (cases h; rfl)
theorem product_num {x y d : Ieee.Datum} (h : x.product y = some d) : d.isNaN = false := by
  cases x <;> cases y <;> simp only [Ieee.Datum.product] at h <;> first | (cases h; done) | (split at h <;> cases h <;> rfl) | (cases h; rfl)
theorem quotient_num {k : Nat} {x y d : Ieee.Datum} (h : Ieee.Datum.quotient k x y = some d) : d.isNaN = false := by
  cases x <;> cases y <;> simp only [Ieee.Datum.quotient] at h <;> first | (cases h; done) | (split at h <;> (first | (split at h <;> cases h <;> rfl) | (cases h <;> rfl))) | (cases h; rfl)
theorem map_num {d : Option Ieee.Datum} {r : Nat} (h : d.map F.write = some r) (g : ∀ x, d = some x → x.isNaN = false) : isN r = false ∧ r < 18446744073709551616 := by
  cases d with
  | none => cases h
  | some x => cases h; exact write_num x (g x rfl)
/-- The four operations: what they give, all NaN one. -/
def vop (op : BinOp) (x y : Nat) : Nat := (floatBits op .f64 x y).getD 9221120237041090560
theorem bits_num {op : BinOp} {x y r : Nat} (h : floatBits op .f64 x y = some r) : isN r = false ∧ r < 18446744073709551616 := by
  unfold floatBits at h
  cases op <;> simp only at h <;> first | (cases h; done) | exact map_num h fun _ e => sum_num e | exact map_num h fun _ e => product_num e | exact map_num h fun _ e => quotient_num e
theorem bits_nan_l {op : BinOp} {x y : Nat} (h : isN x = true) : floatBits op .f64 x y = none := by
  obtain ⟨t, e⟩ := read_nan x h
  cases op <;> try rfl
  · show (((F.read x).sum (F.read y)).map F.write) = none; rw [e]; cases F.read y <;> rfl
  · show (((F.read x).sum (F.read y).opposite).map F.write) = none; rw [e]; cases F.read y <;> rfl
  · show (((F.read x).product (F.read y)).map F.write) = none; rw [e]; cases F.read y <;> rfl
  · show (((F.read x).quotient (F.fractionBits + 2) (F.read y)).map F.write) = none; rw [e]; cases F.read y <;> rfl
theorem bits_nan_r {op : BinOp} {x y : Nat} (h : isN y = true) : floatBits op .f64 x y = none := by
  obtain ⟨t, e⟩ := read_nan y h
  cases op <;> try rfl
  · show (((F.read x).sum (F.read y)).map F.write) = none; rw [e]; cases F.read x <;> rfl
  · show (((F.read x).sum (F.read y).opposite).map F.write) = none; rw [e]; cases F.read x <;> rfl
  · show (((F.read x).product (F.read y)).map F.write) = none; rw [e]; cases F.read x <;> rfl
  · show (((F.read x).quotient (F.fractionBits + 2) (F.read y)).map F.write) = none; rw [e]; cases F.read x <;> rfl
theorem cn_num {b : Nat} (h : isN b = false) : cn b = b := by unfold cn; rw [h]; rfl
theorem cn_nan {b : Nat} (h : isN b = true) : cn b = 9221120237041090560 := by unfold cn; rw [h]; rfl
theorem nan_c : isN 9221120237041090560 = true := by decide
theorem isN_cn (b : Nat) : isN (cn b) = isN b := by
  cases h : isN b with
  | true => rw [cn_nan h]; exact nan_c
  | false => rw [cn_num h]; exact h
theorem cn_cn (b : Nat) : cn (cn b) = cn b := by
  cases h : isN b with
  | true => rw [cn_nan h]; exact cn_nan nan_c
  | false => rw [cn_num h]; exact cn_num h
theorem cn_lt {b : Nat} (h : b < 18446744073709551616) : cn b < 18446744073709551616 := by unfold cn; split <;> omega
theorem isN_of_cn {a b : Nat} (h : cn a = cn b) : isN a = isN b := by rw [← isN_cn a, h, isN_cn]
theorem vop_lt (op : BinOp) (x y : Nat) : vop op x y < 18446744073709551616 := by
  unfold vop
  cases h : floatBits op .f64 x y with
  | none => decide
  | some r => exact (bits_num h).2
theorem cn_vop (op : BinOp) (x y : Nat) : cn (vop op x y) = vop op x y := by
  unfold vop
  cases h : floatBits op .f64 x y with
  | none => exact cn_nan nan_c
  | some r => exact cn_num (bits_num h).1
theorem vop_l {op : BinOp} {a b : Nat} (h : cn a = cn b) (y : Nat) : vop op a y = vop op b y := by
  cases ha : isN a with
  | true =>
    have hb : isN b = true := by rw [← isN_of_cn h]; exact ha
    unfold vop; rw [bits_nan_l ha, bits_nan_l hb]
  | false =>
    have hb : isN b = false := by rw [← isN_of_cn h]; exact ha
    rw [cn_num ha, cn_num hb] at h; rw [h]
theorem vop_r {op : BinOp} {a b : Nat} (h : cn a = cn b) (x : Nat) : vop op x a = vop op x b := by
  cases ha : isN a with
  | true =>
    have hb : isN b = true := by rw [← isN_of_cn h]; exact ha
    unfold vop; rw [bits_nan_r ha, bits_nan_r hb]
  | false =>
    have hb : isN b = false := by rw [← isN_of_cn h]; exact ha
    rw [cn_num ha, cn_num hb] at h; rw [h]
theorem cut_nan (x y k : Nat) : (Question.nanBits .f64 x y).cut k = (k % 2) * 9223372036854775808 + 9218868437227405312 + 1 + (k / 2) % 4503599627370495 := rfl
/-- The walk's law: an operation gives a float that is the document's, all NaN alike. -/
theorem run_op {P : Program} (w : World) (op : BinOp) (t : TypeId) (x y : Nat) (ho : op = .add ∨ op = .sub ∨ op = .mul ∨ op = .quo) :
    ∃ (b : Nat) (w1 : World), (binOp op t (.float .f64 x) (.float .f64 y)).run P w = .ok (.float .f64 b) w1 ∧ cn b = vop op x y ∧ b < 18446744073709551616 ∧ Below w.heap.size w w1 := by
  cases h : floatBits op .f64 x y with
  | some r =>
    refine ⟨r, w, run_float_arith w op t .f64 x y r h, ?_, (bits_num h).2, Below.refl _ _⟩
    unfold vop; rw [h]; exact cn_num (bits_num h).1
  | none =>
    have hrun : ∃ k, (binOp op t (.float .f64 x) (.float .f64 y)).run P w = .ok (.float .f64 ((Question.nanBits .f64 x y).cut k)) w.drew := by
      unfold floatBits at h
      rcases ho with rfl | rfl | rfl | rfl <;> simp only at h
      all_goals
        refine ⟨w.tape w.drawn (.nanBits .f64 x y), ?_⟩
        simp [binOp, Op.floatArith, h, choose, Sem.run, Question.forced]
    obtain ⟨k, hk⟩ := hrun
    refine ⟨_, _, hk, ?_, ?_, (Below.refl _ _).drew⟩
    · unfold vop; rw [h]
      refine cn_nan ?_
      rw [cut_nan]
      unfold isN
      refine decide_eq_true ?_
      have hq := Nat.mod_lt (k / 2) (show 0 < 4503599627370495 by decide)
      generalize k / 2 % 4503599627370495 = q at *
      have h2 : k % 2 = 0 ∨ k % 2 = 1 := by omega
      rcases h2 with h2 | h2 <;> rw [h2] <;> omega
    · rw [cut_nan]
      have hq := Nat.mod_lt (k / 2) (show 0 < 4503599627370495 by decide)
      generalize k / 2 % 4503599627370495 = q at *
      have h2 : k % 2 = 0 ∨ k % 2 = 1 := by omega
      rcases h2 with h2 | h2 <;> rw [h2] <;> omega
end Go.Proofs.Ytnhlfafdldpdgaa.Flt
