import Derived.Test.YtlgcmcieipdcgaaX6x2
import Derived.Test.YtlgcmcieipdcgaaX6x3
import Derived.Test.YtlgcmcieipdcgaaX6x4
/-! The plain laws of layer 6: what the functions come to. -/
namespace Go.Proofs.Ytlgcmcieipdcgaa.X6
open Go Go.RowKit Go.Proofs.YtlgcmcieipdcgaaW.PrintWords Go.Proofs.Ytlgcmcieipdcgaa.Page
set_option linter.unusedVariables false
theorem wf64 {x : Int} (h : (Lit.int .i64 x).wf = true) : -9223372036854775808 ≤ x ∧ x ≤ 9223372036854775807 := by
  simp only [Lit.wf, Bool.and_eq_true, decide_eq_true_eq] at h
  exact h
theorem w64 {x : Int} (h0 : -9223372036854775808 ≤ x) (h1 : x ≤ 9223372036854775807) : wrap64 x = x := by unfold wrap64; omega
theorem u64_range (x : Int) : 0 ≤ IntKind.u64.wrap x ∧ IntKind.u64.wrap x < 18446744073709551616 := by rw [IntKind.wrap_u64]; omega
theorem u64_in {x : Int} (h0 : 0 ≤ x) (h1 : x < 18446744073709551616) : IntKind.u64.wrap x = x := by rw [IntKind.wrap_u64]; omega
/-- 'int(uint(x) % n)'. -/
theorem umod (x n : Int) (h0 : 0 < n) (h1 : n ≤ 9223372036854775807) : ∃ m : Nat, wrap64 (Int.tmod (IntKind.u64.wrap x) n) = (m : Int) ∧ (m : Int) < n := by
  have h := u64_range x
  have e : Int.tmod (IntKind.u64.wrap x) n = IntKind.u64.wrap x % n := Int.tmod_eq_emod_of_nonneg h.1
  have a := Int.emod_nonneg (IntKind.u64.wrap x) (show n ≠ 0 by omega)
  have b := Int.emod_lt_of_pos (IntKind.u64.wrap x) h0
  refine ⟨(IntKind.u64.wrap x % n).toNat, ?_, by omega⟩
  rw [e, w64 (by omega) (by omega)]; omega
theorem right_eq (a : Int) (b : ByteArray) : page_Right.f a b = some (decide (0 ≤ a ∧ a ≤ 2147483647 ∧ b.size = 220)) := by
  unfold page_Right.f
  by_cases h0 : a ≥ 0
  · by_cases h1 : a ≤ 2147483647
    · rw [if_pos h0, if_pos h1]
      congr 1
      rw [Bool.eq_iff_iff]; simp only [beq_iff_eq, decide_eq_true_eq]; omega
    · rw [if_pos h0, if_neg h1]; congr 1; symm; simp; omega
  · rw [if_neg h0]; congr 1; symm; simp; omega
theorem refright_eq (a : Int) (b : ByteArray) : careenref06_Right.f a b = some (decide (0 ≤ a ∧ a ≤ 2147483647 ∧ b.size = 220)) := right_eq a b
/-- What Get gives. -/
def getF (p0 : Int) (p1 : ByteArray) (off n : Int) : ByteArray × Int :=
  if 0 ≤ p0 ∧ p0 ≤ 2147483647 ∧ p1.size = 220 then
    if 0 ≤ off ∧ 0 ≤ n ∧ off + n ≤ 220 then (p1.extract off.toNat (off + n).toNat, 0) else (⟨#[]⟩, 2)
  else (⟨#[]⟩, 3)
theorem get_eq (p0 : Int) (p1 : ByteArray) (off n : Int) (ho : -9223372036854775808 ≤ off ∧ off ≤ 9223372036854775807) (hn : -9223372036854775808 ≤ n ∧ n ≤ 9223372036854775807) : page_Get.f p0 p1 off n = some (getF p0 p1 off n) := by
  unfold page_Get.f getF
  rw [right_eq]
  simp only [Option.bind_some]
  by_cases hp : 0 ≤ p0 ∧ p0 ≤ 2147483647 ∧ p1.size = 220
  · rw [if_pos (by simpa using hp), if_pos hp]
    by_cases h1 : off < 0
    · rw [if_pos h1, if_neg (by omega)]
    · rw [if_neg h1]
      by_cases h2 : n < 0
      · rw [if_pos h2, if_neg (by omega)]
      · rw [if_neg h2]
        by_cases h3 : n > 220
        · rw [if_pos h3, if_neg (by omega)]
        · rw [if_neg h3, w64 (by omega) (by omega)]
          by_cases h4 : off > 220 - n
          · rw [if_pos h4, if_neg (by omega)]
          · rw [if_neg h4, w64 (by omega) (by omega), if_pos (by omega), if_pos (by omega), if_pos (by omega), if_pos (by omega)]
  · rw [if_neg (by simpa using hp), if_neg hp]
theorem refget_eq (p0 : Int) (p1 : ByteArray) (off n : Int) (ho : -9223372036854775808 ≤ off ∧ off ≤ 9223372036854775807) (hn : -9223372036854775808 ≤ n ∧ n ≤ 9223372036854775807) : careenref06_Get.f p0 p1 off n = some (getF p0 p1 off n) := by
  unfold careenref06_Get.f getF
  rw [refright_eq]
  simp only [Option.bind_some]
  by_cases hp : 0 ≤ p0 ∧ p0 ≤ 2147483647 ∧ p1.size = 220
  · rw [if_pos (by simpa using hp), if_pos hp]
    by_cases h1 : off < 0
    · rw [if_pos h1, if_neg (by omega)]
    · rw [if_neg h1]
      by_cases h3 : off > 220
      · rw [if_pos h3, if_neg (by omega)]
      · rw [if_neg h3]
        by_cases h2 : n < 0
        · rw [if_pos h2, if_neg (by omega)]
        · rw [if_neg h2, w64 (by omega) (by omega)]
          by_cases h4 : n > 220 - off
          · rw [if_pos h4, if_neg (by omega)]
          · rw [if_neg h4, w64 (by omega) (by omega), if_pos (by omega), if_pos (by omega), if_pos (by omega), if_pos (by omega)]
  · rw [if_neg (by simpa using hp), if_neg hp]
theorem put_eq (p0 : Int) (p1 : ByteArray) (off : Int) (s : ByteArray) (at_ : Int) (hs : s.size ≤ 140737488351232) : page_Put.f p0 p1 off s at_ = some (putF p0 p1 off s at_) := if_pos hs
theorem refput_eq (p0 : Int) (p1 : ByteArray) (off : Int) (s : ByteArray) (at_ : Int) (hs : s.size ≤ 140737488351232) : careenref06_Put.f p0 p1 off s at_ = some (putF p0 p1 off s at_) := if_pos hs
/-- What a record does to a page: its kind, its place on the page, its bytes. -/
def applyF (p0 : Int) (p1 : ByteArray) (at_ : Int) (kind off : Int) (after : ByteArray) : Int × ByteArray :=
  if (kind = 1 ∨ kind = 2) ∧ p0 < at_ ∧ (putF p0 p1 off after at_).2.2 = 0 then ((putF p0 p1 off after at_).1, (putF p0 p1 off after at_).2.1) else (p0, p1)
theorem apply_eq (k : Nat) (p0 : Int) (p1 : ByteArray) (at_ : Int) (a0 a1 a2 a3 a4 a5 a6 : Int) (a7 a8 : ByteArray) (l9 : List S100) (l10 : List S102) (h8 : a8.size ≤ 140737488351232) :
    page_Apply.f (k + 1) p0 p1 at_ a0 a1 a2 a3 a4 a5 a6 a7 a8 l9 l10 = some (applyF p0 p1 at_ a0 a3 a8) := by
  have go : ∀ x : Bool, page_Apply.j0 (k + 1) at_ x p0 p1 a0 a1 a2 a3 a4 a5 a6 a7 a8 l9 l10 = some (if x = false ∧ (putF p0 p1 a3 a8 at_).2.2 = 0 then ((putF p0 p1 a3 a8 at_).1, (putF p0 p1 a3 a8 at_).2.1) else (p0, p1)) := by
    intro x
    simp only [page_Apply.j0]
    cases x with
    | true => simp
    | false =>
      rw [if_neg (by simp), put_eq _ _ _ _ _ h8]
      simp only [Option.bind_some]
      by_cases h : (putF p0 p1 a3 a8 at_).2.2 = 0 <;> simp [h]
  unfold page_Apply.f applyF
  by_cases h1 : a0 = 1
  · rw [if_pos h1, go]; congr 1; by_cases h : p0 < at_ <;> simp [h1, h]
  · rw [if_neg h1]
    by_cases h2 : a0 = 2
    · rw [if_pos h2, go]; congr 1; by_cases h : p0 < at_ <;> simp [h2, h]
    · rw [if_neg h2, go]; simp [h1, h2]
theorem awake_eq (k : Nat) (h : 1 ≤ k) : careenlaw06_awake.f k = some true :=
  at_rounds (g := fun k => careenlaw06_awake.f k) careenlaw06_awake.mono h (by decide +kernel)

theorem empty_eq : page_Empty.f = some (0, Arr.noughts 220) := rfl
theorem empty_ref : careenref06_Empty.f = some (0, Arr.noughts 220) := by decide +kernel
end Go.Proofs.Ytlgcmcieipdcgaa.X6
