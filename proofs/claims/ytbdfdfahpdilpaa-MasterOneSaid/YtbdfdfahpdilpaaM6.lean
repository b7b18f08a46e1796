import Derived.Test.YtbdfdfahpdilpaaM5
/-! Layer 12: masters in turns. -/
namespace Go.Proofs.Ytbdfdfahpdilpaa.X12
open Go Go.RowKit Go.ChangeMaps Go.Proofs.Ytbdfdfahpdilpaa.Arr Go.Proofs.Ytbdfdfahpdilpaa.Mp Go.Proofs.Ytbdfdfahpdilpaa.Ow Go.Proofs.Ytbdfdfahpdilpaa.Dk Go.Proofs.Ytbdfdfahpdilpaa.Slab Go.Proofs.Ytbdfdfahpdilpaa.Lv Go.Proofs.YtbdfdfahpdilpaaW.PrintWords Go.Proofs.YtbdfdfahpdilpaaW.PrintLast Go.Proofs.YtbdfdfahpdilpaaW.PrintMore
set_option linter.unusedVariables false
set_option linter.unusedSimpArgs false
/-- The sectors bear master c, l with ticket T; what the other one bears, if anything, is older. -/
def InvT (s0 s1 : ByteArray) (T : Nat) (c l : Int) : Prop := (T = 0 ∧ oneB s0 = ⟨0, 0, 0, false⟩ ∧ oneB s1 = ⟨0, 0, 0, false⟩ ∧ c = 0 ∧ l = 1) ∨ (1 ≤ T ∧ T % 2 = 0 ∧ oneB s0 = ⟨c, l, T, true⟩ ∧ ((oneB s1).ok = true → (oneB s1).t < T)) ∨ (1 ≤ T ∧ T % 2 = 1 ∧ oneB s1 = ⟨c, l, T, true⟩ ∧ ((oneB s0).ok = true → (oneB s0).t < T))
theorem inv_new : InvT (noughts 128) (noughts 128) 0 0 1 := .inl ⟨rfl, one_zero, one_zero, rfl, rfl⟩
theorem inv_read {s0 s1 : ByteArray} {T : Nat} {c l : Int} (h : InvT s0 s1 T c l) : ∃ f, stepM (stepM ⟨0, 1, 0, false⟩ (oneB s0)) (oneB s1) = ⟨c, l, T, f⟩ := by
  rcases h with ⟨rfl, h0, h1, rfl, rfl⟩ | ⟨hT, _, h0, h1⟩ | ⟨hT, _, h1, h0⟩
  · exact ⟨false, by rw [h0, h1]; simp [stepM]⟩
  · refine ⟨true, ?_⟩
    rw [h0]
    have e : stepM ⟨0, 1, 0, false⟩ ⟨c, l, (T : Int), true⟩ = ⟨c, l, T, true⟩ := by simp [stepM]
    rw [e]
    unfold stepM
    rw [if_neg]
    rintro ⟨hk, hf | ht⟩
    · cases hf
    · have := h1 hk
      simp only at ht
      omega
  · refine ⟨true, ?_⟩
    rw [h1]
    generalize hx : oneB s0 = x at h0 ⊢
    obtain ⟨xc, xl, xt, xo⟩ := x
    simp only at h0
    cases xo with
    | false => simp [stepM]
    | true =>
      have := h0 rfl
      simp [stepM, this]
theorem inv_put {s0 s1 : ByteArray} {T : Nat} {c l c' l' : Int} (h : InvT s0 s1 T c l) (hT : T < 1000000) (hm : mayM c' l' = true) : (T % 2 = 0 → InvT s0 (secM ((T + 1 : Nat) : Int) c' l') (T + 1) c' l') ∧ (T % 2 = 1 → InvT (secM ((T + 1 : Nat) : Int) c' l') s1 (T + 1) c' l') := by
  have hs := one_sec (t := ((T + 1 : Nat) : Int)) (by omega) hm
  refine ⟨fun he => .inr (.inr ⟨by omega, by omega, hs, fun hk => ?_⟩), fun he => .inr (.inl ⟨by omega, by omega, hs, fun hk => ?_⟩)⟩
  · rcases h with ⟨rfl, h0, _⟩ | ⟨_, _, h0, _⟩ | ⟨_, h2, _⟩
    · rw [h0] at hk; cases hk
    · rw [h0]; show (T : Int) < _; omega
    · omega
  · rcases h with ⟨rfl, _⟩ | ⟨_, h2, _⟩ | ⟨_, _, h1, _⟩
    · omega
    · omega
    · rw [h1]; show (T : Int) < _; omega
end Go.Proofs.Ytbdfdfahpdilpaa.X12
