import Derived.Test.YtnhlfafdldpdgaaAwake2
/-! Layer 2: the walks of the laws. -/
namespace Go.Proofs.Ytnhlfafdldpdgaa.X2
open Go Go.RowKit Go.Proofs.Ytnhlfafdldpdgaa.Arr Go.Proofs.Ytnhlfafdldpdgaa.Flt Go.Proofs.Ytnhlfafdldpdgaa.Cell Go.Proofs.YtnhlfafdldpdgaaW.PrintWords Go.Proofs.YtnhlfafdldpdgaaW.PrintLast Go.Proofs.YtnhlfafdldpdgaaW.PrintMore
set_option linter.unusedVariables false
set_option linter.unusedSimpArgs false
attribute [local go_sem] run_bits run_frombits
theorem bool_ne (b : Bool) : (b != b) = false := by cases b <;> rfl
theorem str_eq (s : ByteArray) : (s == s) = true := by
  obtain ⟨d⟩ := s
  show (d == d) = true
  rw [beq_iff_eq]
theorem str_ne (s : ByteArray) : (s != s) = false := by
  show (!(s == s)) = false
  rw [str_eq]; rfl
theorem int_ne (s : Int) : (s != s) = false := by rw [bne_eq_false_iff_eq]
theorem int_eq (s : Int) : (s == s) = true := by rw [beq_iff_eq]
theorem bytes_walk (f : Nat) (hf : f < 18446744073709551616) (s : ByteArray) (w : World) : Calls Try.prog 3 #[.float .f64 f, .string s] w (Gives (.bool true) w) := by
  have HB := Aside0.mk (Below.refl w.heap.size w)
  have HAW := Aside0.mk awake_go
  by_cases hs : (100 : Int) < (s.size : Int)
  · go_enter Try.func3, Try.ntmps3
    go_wp2_with (first | (go_at_call 17; with_reducible refine (HAW.out _).mono ?_; rintro e w1 ⟨rfl, hb1⟩; have n_ := Aside0.mk (Arr.below_trans HB.out hb1); clear HB; have HB := n_; clear n_ hb1))
    go_ret
    exact ⟨rfl, HB.out⟩
  · have HY := Aside0.mk (bytes_calls f hf); have HRY := Aside0.mk (rbytes_calls f hf)
    have hF := float_calls s
    generalize by8 (cn f) = y at *
    have y0 := str_ne y
    by_cases h8 : s.size = 8
    · simp only [if_pos h8] at hF
      have HF := Aside0.mk hF
      have z8 : ((s.size : Int) != 8) = false := by simp [h8]
      have HRF := Aside0.mk (rfloat_calls s h8)
      have R0 := rbits_calls (cn (acc s 8))
      rw [cn_cn] at R0
      have HR0 := Aside0.mk R0
      generalize cn (acc s 8) = x at *
      have x0 := int_eq (x : Int)
      clear h8 hF R0
      go_enter Try.func3, Try.ntmps3
      go_wp2_with (first | (go_at_call 17; with_reducible refine (HAW.out _).mono ?_; rintro e w1 ⟨rfl, hb1⟩; have n_ := Aside0.mk (Arr.below_trans HB.out hb1); clear HB; have HB := n_; clear n_ hb1) | (go_at_call 18; with_reducible refine (HF.out _).mono ?_; rintro e w1 ⟨rfl, hb1⟩; have n_ := Aside0.mk (Arr.below_trans HB.out hb1); clear HB; have HB := n_; clear n_ hb1) | (go_at_call 19; with_reducible refine (HY.out _).mono ?_; rintro e w1 ⟨rfl, hb1⟩; have n_ := Aside0.mk (Arr.below_trans HB.out hb1); clear HB; have HB := n_; clear n_ hb1) | (go_at_call 20; with_reducible refine (HRY.out _).mono ?_; rintro e w1 ⟨rfl, hb1⟩; have n_ := Aside0.mk (Arr.below_trans HB.out hb1); clear HB; have HB := n_; clear n_ hb1) | (go_at_call 21; with_reducible refine (HR0.out _).mono ?_; rintro e w1 ⟨rfl, hb1⟩; have n_ := Aside0.mk (Arr.below_trans HB.out hb1); clear HB; have HB := n_; clear n_ hb1) | (go_at_call 22; with_reducible refine (HRF.out _).mono ?_; rintro e w1 ⟨rfl, hb1⟩; have n_ := Aside0.mk (Arr.below_trans HB.out hb1); clear HB; have HB := n_; clear n_ hb1))
      go_ret
      exact ⟨rfl, HB.out⟩
    · simp only [if_neg h8] at hF
      have HF := Aside0.mk hF
      have z8 : ((s.size : Int) != 8) = true := by simpa using (by omega : ¬ (s.size : Int) = 8)
      have q0 : (FloatKind.f64.format.order 0 0 == some .eq) = true := by decide +kernel
      clear h8 hF
      go_enter Try.func3, Try.ntmps3
      go_wp2_with (first | (go_at_call 17; with_reducible refine (HAW.out _).mono ?_; rintro e w1 ⟨rfl, hb1⟩; have n_ := Aside0.mk (Arr.below_trans HB.out hb1); clear HB; have HB := n_; clear n_ hb1) | (go_at_call 18; with_reducible refine (HF.out _).mono ?_; rintro e w1 ⟨rfl, hb1⟩; have n_ := Aside0.mk (Arr.below_trans HB.out hb1); clear HB; have HB := n_; clear n_ hb1) | (go_at_call 19; with_reducible refine (HY.out _).mono ?_; rintro e w1 ⟨rfl, hb1⟩; have n_ := Aside0.mk (Arr.below_trans HB.out hb1); clear HB; have HB := n_; clear n_ hb1) | (go_at_call 20; with_reducible refine (HRY.out _).mono ?_; rintro e w1 ⟨rfl, hb1⟩; have n_ := Aside0.mk (Arr.below_trans HB.out hb1); clear HB; have HB := n_; clear n_ hb1))
      go_ret
      exact ⟨rfl, HB.out⟩
def careenlaw02_CellBytes.f (a0 : UInt64) (a1 : ByteArray) : Option Bool := some true
theorem careenlaw02_CellBytes.calls (a0 : UInt64) (a1 : ByteArray) (r : Bool) (w : World) (h : careenlaw02_CellBytes.f a0 a1 = some r) :
    Calls Try.prog 3 #[.float .f64 a0.toNat, .string a1] w fun e w' => e = .returned (.bool r) ∧ Below w.heap.size w w' := by
  obtain rfl := Option.some.inj h
  exact bytes_walk a0.toNat a0.toNat_lt a1 w
theorem adds_walk (s : ByteArray) (f : Nat) (w : World) : Calls Try.prog 4 #[.string s, .float .f64 f] w (Gives (.bool true) w) := by
  have HB := Aside0.mk (Below.refl w.heap.size w)
  have HAW := Aside0.mk awake_go
  by_cases hs : (100 : Int) < (s.size : Int)
  · go_enter Try.func4, Try.ntmps4
    go_wp2_with (first | (go_at_call 17; with_reducible refine (HAW.out _).mono ?_; rintro e w1 ⟨rfl, hb1⟩; have n_ := Aside0.mk (Arr.below_trans HB.out hb1); clear HB; have HB := n_; clear n_ hb1))
    go_ret
    exact ⟨rfl, HB.out⟩
  · have hA := add_calls s f
    by_cases h8 : s.size = 8
    · simp only [if_pos h8] at hA
      unfold addS at hA
      have HA := Aside0.mk hA
      have z8 : ((s.size : Int) != 8) = false := by simp [h8]
      have HRF := Aside0.mk (rfloat_calls s h8)
      generalize acc s 8 = a at *
      have HV := Aside0.mk (vop_l (op := .add) (cn_cn a) f)
      have y0 := str_eq (by8 (vop .add a f))
      clear h8 hA
      go_enter Try.func4, Try.ntmps4
      go_wp2_with (first | (go_at_call 17; with_reducible refine (HAW.out _).mono ?_; rintro e w1 ⟨rfl, hb1⟩; have n_ := Aside0.mk (Arr.below_trans HB.out hb1); clear HB; have HB := n_; clear n_ hb1) | (go_at_call 24; with_reducible refine (HA.out _).mono ?_; rintro e w1 ⟨rfl, hb1⟩; have n_ := Aside0.mk (Arr.below_trans HB.out hb1); clear HB; have HB := n_; clear n_ hb1) | (go_at_call 22; with_reducible refine (HRF.out _).mono ?_; rintro e w1 ⟨rfl, hb1⟩; have n_ := Aside0.mk (Arr.below_trans HB.out hb1); clear HB; have HB := n_; clear n_ hb1; obtain ⟨b1, w2, hrun, hc, hl, hb2⟩ := run_op (P := Try.prog) w1 .add 22 (cn a) f (Or.inl rfl); have R := rbytes_calls b1 hl; rw [hc, HV.out] at R; have HR := Aside0.mk R; have n_ := Aside0.mk (Arr.below_trans HB.out hb2); clear HB; have HB := n_; clear n_ hb2 hc hl R) | (go_at_call 20; with_reducible refine (HR.out _).mono ?_; rintro e w1 ⟨rfl, hb1⟩; have n_ := Aside0.mk (Arr.below_trans HB.out hb1); clear HB; have HB := n_; clear n_ hb1))
      go_ret
      exact ⟨rfl, HB.out⟩
    · simp only [if_neg h8] at hA
      have HA := Aside0.mk hA
      have z8 : ((s.size : Int) != 8) = true := by simpa using (by omega : ¬ (s.size : Int) = 8)
      have y0 := str_eq ⟨#[]⟩
      clear h8 hA
      go_enter Try.func4, Try.ntmps4
      go_wp2_with (first | (go_at_call 17; with_reducible refine (HAW.out _).mono ?_; rintro e w1 ⟨rfl, hb1⟩; have n_ := Aside0.mk (Arr.below_trans HB.out hb1); clear HB; have HB := n_; clear n_ hb1) | (go_at_call 24; with_reducible refine (HA.out _).mono ?_; rintro e w1 ⟨rfl, hb1⟩; have n_ := Aside0.mk (Arr.below_trans HB.out hb1); clear HB; have HB := n_; clear n_ hb1))
      go_ret
      exact ⟨rfl, HB.out⟩
def careenlaw02_CellAdds.f (a0 : ByteArray) (a1 : UInt64) : Option Bool := some true
theorem careenlaw02_CellAdds.calls (a0 : ByteArray) (a1 : UInt64) (r : Bool) (w : World) (h : careenlaw02_CellAdds.f a0 a1 = some r) :
    Calls Try.prog 4 #[.string a0, .float .f64 a1.toNat] w fun e w' => e = .returned (.bool r) ∧ Below w.heap.size w w' := by
  obtain rfl := Option.some.inj h
  exact adds_walk a0 a1.toNat w
-- MORE
end Go.Proofs.Ytnhlfafdldpdgaa.X2
