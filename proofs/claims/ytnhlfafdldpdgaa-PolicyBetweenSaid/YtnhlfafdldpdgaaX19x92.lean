import Derived.Test.YtnhlfafdldpdgaaX19x90
import Derived.Test.YtnhlfafdldpdgaaFlt4
/-! Layer 19: PolicyDue: its plain law and its walk. -/
namespace Go.Proofs.Ytnhlfafdldpdgaa.X19
open Go Go.RowKit Go.Proofs.Ytnhlfafdldpdgaa.Arr Go.Proofs.Ytnhlfafdldpdgaa.Flt Go.Proofs.Ytnhlfafdldpdgaa.Cell Go.Proofs.Ytnhlfafdldpdgaa.Pol Go.Proofs.YtnhlfafdldpdgaaW.PrintWords Go.Proofs.YtnhlfafdldpdgaaW.PrintLast Go.Proofs.YtnhlfafdldpdgaaW.PrintMore
set_option linter.unusedVariables false
set_option linter.unusedSimpArgs false
attribute [local go_sem] run_bits run_frombits run_store_float
attribute [local go_sem high] bin_geq bin_leq neq_eq
def ltF (a b : Nat) : Bool := FloatKind.f64.format.order a b == some .lt
theorem ge_eq (a b : Nat) : geF a b = (!isN a && (!isN b && decide (keyI b ≤ keyI a))) := by
  unfold geF
  rw [gtr_eq, eql_eq]
  cases isN a
  · cases isN b
    · simp only [Bool.not_false, Bool.true_and]
      rw [Bool.eq_iff_iff, Bool.or_eq_true, decide_eq_true_eq, decide_eq_true_eq, decide_eq_true_eq]
      omega
    · rfl
  · rfl
theorem cn_or (a : Nat) : isN a = true ∨ cn a = a := by
  cases h : isN a with
  | true => exact Or.inl rfl
  | false => exact Or.inr (cn_num h)
/-- More, and what was there still is: or it is no number any more. -/
theorem more_ge (b l m x : Nat) (hb : b < 18446744073709551616) (hm : isN m = false) (hm0 : 0 ≤ keyI m) (hmf : fin m) (hx : cn x = vop .add b m) (h : geF b l = true) : geF x l = true := by
  rw [ge_eq] at h ⊢
  simp only [Bool.and_eq_true, Bool.not_eq_true', decide_eq_true_eq] at h ⊢
  obtain ⟨h1, h2, h3⟩ := h
  have hxn : isN (vop .add b m) = false ∧ keyI b ≤ keyI (vop .add b m) := by
    rcases fin_or h1 with q | q
    · refine ⟨add_num b m q hmf, add_ge b m b q hmf (by unfold fin at q; omega) ?_⟩
      have h0 : val 0 = 0 := by decide
      have := (val_key 0 m).2 (by rw [show keyI 0 = 0 from rfl]; exact hm0)
      omega
    · rw [inf_add b m hb q hmf]
      exact ⟨h1, Int.le_refl _⟩
  have hxx : cn x = x := by
    rcases cn_or x with z | z
    · have : isN (cn x) = true := by rw [isN_cn]; exact z
      rw [hx, hxn.1] at this; cases this
    · exact z
  rw [← hxx, hx]
  exact ⟨hxn.1, h2, by omega⟩
theorem more_nan (b m x : Nat) (hx : cn x = vop .add b m) (h : isN b = true) : isN x = true := by
  rw [← isN_cn, hx]
  unfold vop
  rw [bits_nan_l h]
  exact nan_c
theorem due_more (b l s m e x y : Nat) (hb : b < 18446744073709551616) (hs : s < 18446744073709551616) (hm : isN e = false) (hm0 : 0 ≤ keyI e) (hmf : fin e) (hx : cn x = vop .add b e) (hy : cn y = vop .add s e) (h : dueF b l s m = true) : dueF x l y m = true := by
  unfold dueF at h ⊢
  simp only [Bool.or_eq_true] at h ⊢
  rcases h with h | h | h | h
  · exact Or.inl (more_ge b l e x hb hm hm0 hmf hx h)
  · exact Or.inr (Or.inl (more_ge s m e y hs hm hm0 hmf hy h))
  · exact Or.inr (Or.inr (Or.inl (more_nan b e x hx h)))
  · exact Or.inr (Or.inr (Or.inr (more_nan s e y hy h)))
theorem isinf_calls (f : Nat) (w : World) : Calls Try.prog 51 #[.float .f64 f, .int .i64 1] w (Gives (.bool (FloatKind.f64.format.order f 9218868437227405311 == some .gt)) w) := by
  have HB := Aside0.mk (Below.refl w.heap.size w)
  go_enter Try.func51, Try.ntmps51
  go_wp2
  go_ret
  exact ⟨rfl, HB.out⟩
theorem inf_gt (f : Nat) (hn : isN f = false) (h0 : 0 ≤ keyI f) (hl : f < 18446744073709551616) : (FloatKind.f64.format.order f 9218868437227405311 == some .gt) = true ∨ fin f := by
  rcases fin_or hn with q | q
  · exact Or.inr q
  · left
    have e := gtr_eq f 9218868437227405311
    rw [e, hn]
    have h1 : isN 9218868437227405311 = false := by decide
    rw [h1]
    have h2 : keyI 9218868437227405311 = 9218868437227405311 := by decide
    have h3 : keyI f = 9218868437227405312 := by
      unfold keyI at h0 ⊢
      rw [q] at h0 ⊢
      cases c : ng f with
      | false => rfl
      | true => rw [c] at h0; simp only [if_true] at h0; omega
    rw [h2, h3]
    decide
theorem pdue_walk (b l s m e : Nat) (hb : b < 18446744073709551616) (hs : s < 18446744073709551616) (he : e < 18446744073709551616) (w : World) : Calls Try.prog 16 #[.float .f64 b, .float .f64 l, .float .f64 s, .float .f64 m, .float .f64 e] w (Gives (.bool true) w) := by
  have HB := Aside0.mk (Below.refl w.heap.size w)
  have HAW := Aside0.mk awake19_go
  have hN := rnan_calls e
  cases hn : isN e with
  | true =>
    rw [hn] at hN
    have HN := Aside0.mk hN; clear hN
    go_enter Try.func16, Try.ntmps16
    go_wp2_with (first | (go_at_call 33; with_reducible refine (HAW.out _).mono ?_; rintro e_ w1 ⟨rfl, hb1⟩; have n_ := Aside0.mk (Arr.below_trans HB.out hb1); clear HB; have HB := n_; clear n_ hb1) | (go_at_call 27; with_reducible refine (HN.out _).mono ?_; rintro e_ w1 ⟨rfl, hb1⟩; have n_ := Aside0.mk (Arr.below_trans HB.out hb1); clear HB; have HB := n_; clear n_ hb1))
    go_ret
    exact ⟨rfl, HB.out⟩
  | false =>
    rw [hn] at hN
    have HN := Aside0.mk hN; clear hN
    cases hlt : (FloatKind.f64.format.order e 0 == some .lt) with
    | true =>
      go_enter Try.func16, Try.ntmps16
      go_wp2_with (first | (go_at_call 33; with_reducible refine (HAW.out _).mono ?_; rintro e_ w1 ⟨rfl, hb1⟩; have n_ := Aside0.mk (Arr.below_trans HB.out hb1); clear HB; have HB := n_; clear n_ hb1) | (go_at_call 27; with_reducible refine (HN.out _).mono ?_; rintro e_ w1 ⟨rfl, hb1⟩; have n_ := Aside0.mk (Arr.below_trans HB.out hb1); clear HB; have HB := n_; clear n_ hb1))
      go_ret
      exact ⟨rfl, HB.out⟩
    | false =>
      have hk : 0 ≤ keyI e := by
        have q := lss_eq e 0
        rw [q, hn, show isN 0 = false from rfl] at hlt
        simp only [Bool.not_false, Bool.true_and, decide_eq_false_iff_not] at hlt
        have : keyI 0 = 0 := rfl
        omega
      have HD := Aside0.mk (due_calls b l s m)
      cases hd : dueF b l s m with
      | false =>
        rw [hd] at HD
        go_enter Try.func16, Try.ntmps16
        go_wp2_with (first | (go_at_call 33; with_reducible refine (HAW.out _).mono ?_; rintro e_ w1 ⟨rfl, hb1⟩; have n_ := Aside0.mk (Arr.below_trans HB.out hb1); clear HB; have HB := n_; clear n_ hb1) | (go_at_call 27; with_reducible refine (HN.out _).mono ?_; rintro e_ w1 ⟨rfl, hb1⟩; have n_ := Aside0.mk (Arr.below_trans HB.out hb1); clear HB; have HB := n_; clear n_ hb1) | (go_at_call 39; with_reducible refine (HD.out _).mono ?_; rintro e_ w1 ⟨rfl, hb1⟩; have n_ := Aside0.mk (Arr.below_trans HB.out hb1); clear HB; have HB := n_; clear n_ hb1))
        go_ret
        exact ⟨rfl, HB.out⟩
      | true =>
        have hdd := hd
        rw [hd] at HD
        have HI := Aside0.mk (isinf_calls e)
        have HK := Aside0.mk (inf_gt e hn hk he)
        have HDM := Aside0.mk (fun x y (hx : cn x = vop .add b e) (hy : cn y = vop .add s e) (hf : fin e) => due_more b l s m e x y hb hs hn hk hf hx hy hdd)
        clear hk hd hdd
        generalize hgi : (FloatKind.f64.format.order e 9218868437227405311 == some .gt) = gi at *
        clear hgi
        go_enter Try.func16, Try.ntmps16
        go_upto_region 3 with (first | (go_at_call 33; with_reducible refine (HAW.out _).mono ?_; rintro e_ w1 ⟨rfl, hb1⟩; have n_ := Aside0.mk (Arr.below_trans HB.out hb1); clear HB; have HB := n_; clear n_ hb1) | (go_at_call 27; with_reducible refine (HN.out _).mono ?_; rintro e_ w1 ⟨rfl, hb1⟩; have n_ := Aside0.mk (Arr.below_trans HB.out hb1); clear HB; have HB := n_; clear n_ hb1))
        go_wp2_with (first | (go_at_call 39; with_reducible refine (HD.out _).mono ?_; rintro e_ w1 ⟨rfl, hb1⟩; have n_ := Aside0.mk (Arr.below_trans HB.out hb1); clear HB; have HB := n_; clear n_ hb1; obtain ⟨x, w2, hr1, hx, lx, q1⟩ := run_op (P := Try.prog) w1 .add 22 b e (by simp); obtain ⟨y, w3, hr2, hy, ly, q2⟩ := run_op (P := Try.prog) w2 .add 22 s e (by simp); have n_ := Aside0.mk (Arr.below_trans HB.out (Arr.below_trans q1 q2)); clear HB; have HB := n_; clear n_ q1 q2; have HDX := Aside0.mk (due_calls x l y m); have HF := Aside0.mk (HDM.out x y hx hy); clear hx hy; generalize dueF x l y m = d2 at *) | (go_at_call 39; with_reducible refine (HDX.out _).mono ?_; rintro e_ w1 ⟨rfl, hb1⟩; have n_ := Aside0.mk (Arr.below_trans HB.out hb1); clear HB; have HB := n_; clear n_ hb1) | (go_at_call 51; with_reducible refine (HI.out _).mono ?_; rintro e_ w1 ⟨rfl, hb1⟩; have n_ := Aside0.mk (Arr.below_trans HB.out hb1); clear HB; have HB := n_; clear n_ hb1))
        all_goals (go_ret; refine ⟨?_, HB.out⟩)
        all_goals first
          | rfl
          | (refine congrArg (fun b => Ending.returned (Value.bool b)) (show gi = true from ?_)
             rcases HK.out with q | q
             · exact q
             · have z := HF.out q
               simp_all)
def careenlaw19_PolicyDue.f (a0 a1 a2 a3 a4 : UInt64) : Option Bool := some true
theorem careenlaw19_PolicyDue.calls (a0 a1 a2 a3 a4 : UInt64) (r : Bool) (w : World) (h : careenlaw19_PolicyDue.f a0 a1 a2 a3 a4 = some r) :
    Calls Try.prog 16 #[.float .f64 a0.toNat, .float .f64 a1.toNat, .float .f64 a2.toNat, .float .f64 a3.toNat, .float .f64 a4.toNat] w fun e w' => e = .returned (.bool r) ∧ Below w.heap.size w w' := by
  obtain rfl := Option.some.inj h
  exact pdue_walk a0.toNat a1.toNat a2.toNat a3.toNat a4.toNat a0.toNat_lt a2.toNat_lt a4.toNat_lt w
end Go.Proofs.Ytnhlfafdldpdgaa.X19
