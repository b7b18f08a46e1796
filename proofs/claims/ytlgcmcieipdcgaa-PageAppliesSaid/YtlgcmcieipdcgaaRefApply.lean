import Derived.Test.YtlgcmcieipdcgaaPure6
import Derived.Test.YtlgcmcieipdcgaaX6x6
namespace Go.Proofs.Ytlgcmcieipdcgaa.X6
open Go Go.RowKit Go.Proofs.YtlgcmcieipdcgaaW.PrintWords Go.Proofs.Ytlgcmcieipdcgaa.Page Go.Proofs.Ytlgcmcieipdcgaa.Arr
set_option linter.unusedVariables false
theorem refapply_eq (k : Nat) (p0 : Int) (p1 : ByteArray) (at_ : Int) (a0 a1 a2 a3 a4 a5 a6 : Int) (a7 a8 : ByteArray) (l9 : List S100) (l10 : List S102) (h8 : a8.size ≤ 140737488351232) :
    careenref06_Apply.f (k + 1) p0 p1 at_ a0 a1 a2 a3 a4 a5 a6 a7 a8 l9 l10 = some (applyF p0 p1 at_ a0 a3 a8) := by
  have go : ∀ x : Bool, careenref06_Apply.j0 (k + 1) at_ x p0 p1 a0 a1 a2 a3 a4 a5 a6 a7 a8 l9 l10 = some (if x = false ∧ (putF p0 p1 a3 a8 at_).2.2 = 0 then ((putF p0 p1 a3 a8 at_).1, (putF p0 p1 a3 a8 at_).2.1) else (p0, p1)) := by
    intro x
    simp only [careenref06_Apply.j0]
    cases x with
    | true => simp
    | false =>
      rw [if_neg (by simp), refput_eq _ _ _ _ _ h8]
      simp only [Option.bind_some]
      by_cases h : (putF p0 p1 a3 a8 at_).2.2 = 0 <;> simp [h]
  unfold careenref06_Apply.f applyF
  rw [refright_eq]
  simp only [Option.bind_some]
  by_cases hp : 0 ≤ p0 ∧ p0 ≤ 2147483647 ∧ p1.size = 220
  · rw [if_pos (by simpa using hp)]
    by_cases h1 : a0 = 1
    · rw [if_pos h1, go]; congr 1; by_cases h : p0 < at_ <;> simp [h1, h]
    · rw [if_neg h1]
      by_cases h2 : a0 = 2
      · rw [if_pos h2, go]; congr 1; by_cases h : p0 < at_ <;> simp [h2, h]
      · rw [if_neg h2, go]; simp [h1, h2]
  · have e : (putF p0 p1 a3 a8 at_).2.2 = 3 := by unfold putF; rw [if_neg hp]
    rw [if_neg (by simpa using hp), go]
    simp [e]
theorem few_eq (a0 a1 a2 a3 a4 a5 a6 : Int) (a7 a8 : ByteArray) (l9 : List S100) (l10 : List S102) :
    careenref04_Few.f a0 a1 a2 a3 a4 a5 a6 a7 a8 l9 l10 = some (decide (a7.size ≤ 300 ∧ a8.size ≤ 300 ∧ l9.length ≤ 50 ∧ l10.length ≤ 50)) := by
  unfold careenref04_Few.f
  by_cases h1 : (a7.size : Int) ≤ 300
  · by_cases h2 : (a8.size : Int) ≤ 300
    · by_cases h3 : (l9.length : Int) ≤ 50
      · rw [if_pos h1, if_pos h2, if_pos h3]; congr 1; rw [Bool.eq_iff_iff]; simp only [decide_eq_true_eq]; omega
      · rw [if_pos h1, if_pos h2, if_neg h3]; congr 1; symm; simp; omega
    · rw [if_pos h1, if_neg h2]; congr 1; symm; simp; omega
  · rw [if_neg h1]; congr 1; symm; simp; omega
end Go.Proofs.Ytlgcmcieipdcgaa.X6
