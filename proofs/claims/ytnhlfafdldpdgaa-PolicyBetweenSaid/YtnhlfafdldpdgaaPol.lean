import Derived.Test.YtnhlfafdldpdgaaCellT
/-! Layer 19: the functions on floats alone. -/
namespace Go.Proofs.Ytnhlfafdldpdgaa.Pol
open Go Go.RowKit Go.Proofs.Ytnhlfafdldpdgaa.Arr Go.Proofs.Ytnhlfafdldpdgaa.Flt Go.Proofs.Ytnhlfafdldpdgaa.Cell Go.Proofs.YtnhlfafdldpdgaaW.PrintWords Go.Proofs.YtnhlfafdldpdgaaW.PrintLast Go.Proofs.YtnhlfafdldpdgaaW.PrintMore
set_option linter.unusedVariables false
set_option linter.unusedSimpArgs false
attribute [local go_sem] run_bits run_frombits
theorem size8 (n : Nat) : (by8 n).size = 8 := rfl
theorem pcanon_calls (b : Nat) (hb : b < 18446744073709551616) (w : World) : Calls Try.prog 58 #[.float .f64 b] w (Gives (.float .f64 (cn b)) w) := by
  have HB := Aside0.mk (Below.refl w.heap.size w)
  have hF := float_calls (by8 (cn b))
  simp only [if_pos (size8 _)] at hF
  rw [acc_by8 _ (cn_lt hb), cn_cn] at hF
  have HF := Aside0.mk hF; have HY := Aside0.mk (bytes_calls b hb)
  clear hF
  generalize by8 (cn b) = y at *
  go_enter Try.func58, Try.ntmps58
  go_wp2_with (first | (go_at_call 19; with_reducible refine (HY.out _).mono ?_; rintro e w1 ⟨rfl, hb1⟩; have n_ := Aside0.mk (Arr.below_trans HB.out hb1); clear HB; have HB := n_; clear n_ hb1) | (go_at_call 18; with_reducible refine (HF.out _).mono ?_; rintro e w1 ⟨rfl, hb1⟩; have n_ := Aside0.mk (Arr.below_trans HB.out hb1); clear HB; have HB := n_; clear n_ hb1))
  go_ret
  exact ⟨rfl, HB.out⟩
theorem rcanon_calls (b : Nat) (w : World) : Calls Try.prog 59 #[.float .f64 b] w (Gives (.float .f64 (cn b)) w) := by
  have HB := Aside0.mk (Below.refl w.heap.size w)
  go_enter Try.func59, Try.ntmps59
  go_wp2_with (go_at_call 21; with_reducible refine (rbits_calls b _).mono ?_; rintro e w1 ⟨rfl, hb1⟩; have n_ := Aside0.mk (Arr.below_trans HB.out hb1); clear HB; have HB := n_; clear n_ hb1)
  go_ret
  exact ⟨rfl, HB.out⟩
def scoreF (a d h : Nat) : Nat := vop .add (vop .quo h (vop .add a 4607182418800017408)) (vop .quo d 4611686018427387904)
theorem vop_self {op : BinOp} {b x y : Nat} (h : cn b = vop op x y) : cn b = cn (vop op x y) := by rw [cn_vop]; exact h
theorem score_eq {a d h b1 b2 b3 b4 : Nat} (c1 : cn b1 = vop .add a 4607182418800017408) (c2 : cn b2 = vop .quo h b1) (c3 : cn b3 = vop .quo d 4611686018427387904) (c4 : cn b4 = vop .add b2 b3) : cn b4 = scoreF a d h := by
  unfold scoreF
  rw [c4, vop_r (vop_self c3), vop_l (vop_self c2), vop_r (vop_self c1)]
theorem score_calls (a d h : Nat) (w : World) : Calls Try.prog 35 #[.float .f64 a, .float .f64 d, .float .f64 h] w (Gives (.float .f64 (scoreF a d h)) w) := by
  obtain ⟨b1, w1, h1, c1, l1, q1⟩ := run_op (P := Try.prog) w .add 22 a 4607182418800017408 (by simp)
  obtain ⟨b2, w2, h2, c2, l2, q2⟩ := run_op (P := Try.prog) w1 .quo 22 h b1 (by simp)
  obtain ⟨b3, w3, h3, c3, l3, q3⟩ := run_op (P := Try.prog) w2 .quo 22 d 4611686018427387904 (by simp)
  obtain ⟨b4, w4, h4, c4, l4, q4⟩ := run_op (P := Try.prog) w3 .add 22 b2 b3 (by simp)
  have HB := Aside0.mk (Arr.below_trans (Arr.below_trans (Arr.below_trans q1 q2) q3) q4)
  have hC := pcanon_calls b4 l4
  rw [score_eq c1 c2 c3 c4] at hC
  have HC := Aside0.mk hC
  clear c1 c2 c3 c4 l1 l2 l3 l4 q1 q2 q3 q4 hC
  go_enter Try.func35, Try.ntmps35
  go_wp2_with (go_at_call 58; with_reducible refine (HC.out _).mono ?_; rintro e w5 ⟨rfl, hb1⟩; have n_ := Aside0.mk (Arr.below_trans HB.out hb1); clear HB; have HB := n_; clear n_ hb1)
  go_ret
  exact ⟨rfl, HB.out⟩
theorem rscore_calls (a d h : Nat) (w : World) : Calls Try.prog 36 #[.float .f64 a, .float .f64 d, .float .f64 h] w (Gives (.float .f64 (scoreF a d h)) w) := by
  obtain ⟨b1, w1, h1, c1, l1, q1⟩ := run_op (P := Try.prog) w .add 22 a 4607182418800017408 (by simp)
  obtain ⟨b2, w2, h2, c2, l2, q2⟩ := run_op (P := Try.prog) w1 .quo 22 h b1 (by simp)
  obtain ⟨b3, w3, h3, c3, l3, q3⟩ := run_op (P := Try.prog) w2 .quo 22 d 4611686018427387904 (by simp)
  obtain ⟨b4, w4, h4, c4, l4, q4⟩ := run_op (P := Try.prog) w3 .add 22 b2 b3 (by simp)
  have HB := Aside0.mk (Arr.below_trans (Arr.below_trans (Arr.below_trans q1 q2) q3) q4)
  have hC := rcanon_calls b4
  rw [score_eq c1 c2 c3 c4] at hC
  have HC := Aside0.mk hC
  clear c1 c2 c3 c4 l1 l2 l3 l4 q1 q2 q3 q4 hC
  go_enter Try.func36, Try.ntmps36
  go_wp2_with (go_at_call 59; with_reducible refine (HC.out _).mono ?_; rintro e w5 ⟨rfl, hb1⟩; have n_ := Aside0.mk (Arr.below_trans HB.out hb1); clear HB; have HB := n_; clear n_ hb1)
  go_ret
  exact ⟨rfl, HB.out⟩
def geF (a b : Nat) : Bool := FloatKind.f64.format.order a b == some .gt || FloatKind.f64.format.order a b == some .eq
def leF (a b : Nat) : Bool := FloatKind.f64.format.order a b == some .lt || FloatKind.f64.format.order a b == some .eq
theorem bin_geq (t : TypeId) (a b : Nat) : binOp .geq t (.float .f64 a) (.float .f64 b) = pure (.bool (geF a b)) := binOp_float_cmp_geq ..
theorem bin_leq (t : TypeId) (a b : Nat) : binOp .leq t (.float .f64 a) (.float .f64 b) = pure (.bool (leF a b)) := binOp_float_cmp_leq ..
attribute [local go_sem high] bin_geq bin_leq
def inU (k : Nat) : Bool := geF k 0 && leF k 4607182418800017408
def decayF (o x k : Nat) : Nat := if inU k then vop .add (vop .mul o k) (vop .mul x (vop .sub 4607182418800017408 k)) else cn x
theorem decay_eq {o x k b1 b2 b3 b4 : Nat} (hk : inU k = true) (c1 : cn b1 = vop .mul o k) (c2 : cn b2 = vop .sub 4607182418800017408 k) (c3 : cn b3 = vop .mul x b2) (c4 : cn b4 = vop .add b1 b3) : cn b4 = decayF o x k := by
  unfold decayF
  rw [if_pos hk, c4, vop_l (vop_self c1), vop_r (vop_self c3), vop_r (vop_self c2)]
theorem decay_calls (o x k : Nat) (hx : x < 18446744073709551616) (w : World) : Calls Try.prog 37 #[.float .f64 o, .float .f64 x, .float .f64 k] w (Gives (.float .f64 (decayF o x k)) w) := by
  cases hk : inU k with
  | true =>
    have hk2 := hk
    unfold inU at hk2
    rw [Bool.and_eq_true] at hk2
    obtain ⟨g1, g2⟩ := hk2
    obtain ⟨b1, w1, h1, c1, l1, q1⟩ := run_op (P := Try.prog) w .mul 22 o k (by simp)
    obtain ⟨b2, w2, h2, c2, l2, q2⟩ := run_op (P := Try.prog) w1 .sub 22 4607182418800017408 k (by simp)
    obtain ⟨b3, w3, h3, c3, l3, q3⟩ := run_op (P := Try.prog) w2 .mul 22 x b2 (by simp)
    obtain ⟨b4, w4, h4, c4, l4, q4⟩ := run_op (P := Try.prog) w3 .add 22 b1 b3 (by simp)
    have HB := Aside0.mk (Arr.below_trans (Arr.below_trans (Arr.below_trans q1 q2) q3) q4)
    have hC := pcanon_calls b4 l4
    rw [decay_eq hk c1 c2 c3 c4] at hC
    have HC := Aside0.mk hC
    clear c1 c2 c3 c4 l1 l2 l3 l4 q1 q2 q3 q4 hC hk
    go_enter Try.func37, Try.ntmps37
    go_wp2_with (go_at_call 58; with_reducible refine (HC.out _).mono ?_; rintro e w5 ⟨rfl, hb1⟩; have n_ := Aside0.mk (Arr.below_trans HB.out hb1); clear HB; have HB := n_; clear n_ hb1)
    go_ret
    exact ⟨rfl, HB.out⟩
  | false =>
    have HB := Aside0.mk (Below.refl w.heap.size w)
    have hd : decayF o x k = cn x := by unfold decayF; rw [hk]; rfl
    rw [hd]
    have HC := Aside0.mk (pcanon_calls x hx)
    unfold inU at hk
    cases g1 : geF k 0 with
    | true =>
      have g2 : leF k 4607182418800017408 = false := by rw [g1, Bool.true_and] at hk; exact hk
      clear hk hd
      go_enter Try.func37, Try.ntmps37
      go_wp2_with (go_at_call 58; with_reducible refine (HC.out _).mono ?_; rintro e w5 ⟨rfl, hb1⟩; have n_ := Aside0.mk (Arr.below_trans HB.out hb1); clear HB; have HB := n_; clear n_ hb1)
      go_ret
      exact ⟨rfl, HB.out⟩
    | false =>
      clear hk hd
      go_enter Try.func37, Try.ntmps37
      go_wp2_with (go_at_call 58; with_reducible refine (HC.out _).mono ?_; rintro e w5 ⟨rfl, hb1⟩; have n_ := Aside0.mk (Arr.below_trans HB.out hb1); clear HB; have HB := n_; clear n_ hb1)
      go_ret
      exact ⟨rfl, HB.out⟩
theorem rdecay_calls (o x k : Nat) (hx : x < 18446744073709551616) (w : World) : Calls Try.prog 38 #[.float .f64 o, .float .f64 x, .float .f64 k] w (Gives (.float .f64 (decayF o x k)) w) := by
  cases hk : inU k with
  | true =>
    have hk2 := hk
    unfold inU at hk2
    rw [Bool.and_eq_true] at hk2
    obtain ⟨g1, g2⟩ := hk2
    obtain ⟨b1, w1, h1, c1, l1, q1⟩ := run_op (P := Try.prog) w .mul 22 o k (by simp)
    obtain ⟨b2, w2, h2, c2, l2, q2⟩ := run_op (P := Try.prog) w1 .sub 22 4607182418800017408 k (by simp)
    obtain ⟨b3, w3, h3, c3, l3, q3⟩ := run_op (P := Try.prog) w2 .mul 22 x b2 (by simp)
    obtain ⟨b4, w4, h4, c4, l4, q4⟩ := run_op (P := Try.prog) w3 .add 22 b1 b3 (by simp)
    have HB := Aside0.mk (Arr.below_trans (Arr.below_trans (Arr.below_trans q1 q2) q3) q4)
    have hC := rcanon_calls b4
    rw [decay_eq hk c1 c2 c3 c4] at hC
    have HC := Aside0.mk hC
    clear c1 c2 c3 c4 l1 l2 l3 l4 q1 q2 q3 q4 hC hk
    go_enter Try.func38, Try.ntmps38
    go_wp2_with (go_at_call 59; with_reducible refine (HC.out _).mono ?_; rintro e w5 ⟨rfl, hb1⟩; have n_ := Aside0.mk (Arr.below_trans HB.out hb1); clear HB; have HB := n_; clear n_ hb1)
    go_ret
    exact ⟨rfl, HB.out⟩
  | false =>
    have HB := Aside0.mk (Below.refl w.heap.size w)
    have hd : decayF o x k = cn x := by unfold decayF; rw [hk]; rfl
    rw [hd]
    have HC := Aside0.mk (rcanon_calls x)
    unfold inU at hk
    cases g1 : geF k 0 with
    | true =>
      have g2 : leF k 4607182418800017408 = false := by rw [g1, Bool.true_and] at hk; exact hk
      clear hk hd
      go_enter Try.func38, Try.ntmps38
      go_wp2_with (go_at_call 59; with_reducible refine (HC.out _).mono ?_; rintro e w5 ⟨rfl, hb1⟩; have n_ := Aside0.mk (Arr.below_trans HB.out hb1); clear HB; have HB := n_; clear n_ hb1)
      go_ret
      exact ⟨rfl, HB.out⟩
    | false =>
      clear hk hd
      go_enter Try.func38, Try.ntmps38
      go_wp2_with (go_at_call 59; with_reducible refine (HC.out _).mono ?_; rintro e w5 ⟨rfl, hb1⟩; have n_ := Aside0.mk (Arr.below_trans HB.out hb1); clear HB; have HB := n_; clear n_ hb1)
      go_ret
      exact ⟨rfl, HB.out⟩
theorem neq_eq (t : TypeId) (a : Nat) : binOp .neq t (.float .f64 a) (.float .f64 a) = pure (.bool (isN a)) := by
  rw [binOp_float_cmp_neq]
  exact congrArg (fun b => (pure (Value.bool b) : Sem Value)) (neq_self a)
attribute [local go_sem high] neq_eq
def dueF (b l s m : Nat) : Bool := geF b l || (geF s m || (isN b || isN s))
theorem due_calls (b l s m : Nat) (w : World) : Calls Try.prog 39 #[.float .f64 b, .float .f64 l, .float .f64 s, .float .f64 m] w (Gives (.bool (dueF b l s m)) w) := by
  have HB := Aside0.mk (Below.refl w.heap.size w)
  unfold dueF
  cases g1 : geF b l
  · cases g2 : geF s m
    · cases g3 : isN b
      · go_enter Try.func39, Try.ntmps39
        go_wp2
        go_ret
        exact ⟨rfl, HB.out⟩
      · go_enter Try.func39, Try.ntmps39
        go_wp2
        go_ret
        exact ⟨rfl, HB.out⟩
    · go_enter Try.func39, Try.ntmps39
      go_wp2
      go_ret
      exact ⟨rfl, HB.out⟩
  · go_enter Try.func39, Try.ntmps39
    go_wp2
    go_ret
    exact ⟨rfl, HB.out⟩
theorem rdue_calls (b l s m : Nat) (w : World) : Calls Try.prog 40 #[.float .f64 b, .float .f64 l, .float .f64 s, .float .f64 m] w (Gives (.bool (dueF b l s m)) w) := by
  have HB := Aside0.mk (Below.refl w.heap.size w)
  have hN1 := rnan_calls b; have hN2 := rnan_calls s
  unfold dueF
  cases g3 : isN b <;> cases g4 : isN s <;> rw [g3] at hN1 <;> rw [g4] at hN2 <;> have HN1 := Aside0.mk hN1 <;> have HN2 := Aside0.mk hN2 <;> clear hN1 hN2 g3 g4 <;> cases g1 : geF b l <;> cases g2 : geF s m
  all_goals
    go_enter Try.func40, Try.ntmps40
    go_wp2_with (go_at_call 27; (first | with_reducible refine (HN1.out _).mono ?_ | with_reducible refine (HN2.out _).mono ?_); rintro e w1 ⟨rfl, hb1⟩; have n_ := Aside0.mk (Arr.below_trans HB.out hb1); clear HB; have HB := n_; clear n_ hb1)
    go_ret
    exact ⟨rfl, HB.out⟩
theorem same_calls (a b : Nat) (w : World) : Calls Try.prog 34 #[.float .f64 a, .float .f64 b] w (Gives (.bool ((a : Int) == (cn b : Int))) w) := by
  have HB := Aside0.mk (Below.refl w.heap.size w)
  go_enter Try.func34, Try.ntmps34
  go_wp2_with (go_at_call 21; with_reducible refine (rbits_calls b _).mono ?_; rintro e w1 ⟨rfl, hb1⟩; have n_ := Aside0.mk (Arr.below_trans HB.out hb1); clear HB; have HB := n_; clear n_ hb1)
  go_ret
  exact ⟨rfl, HB.out⟩
end Go.Proofs.Ytnhlfafdldpdgaa.Pol
