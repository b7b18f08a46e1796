import Derived.Test.YtnhlfafdldpdgaaMeter2
/-! Layer 19: 'awake' is true. -/
namespace Go.Proofs.Ytnhlfafdldpdgaa.Pol
open Go Go.RowKit Go.Proofs.Ytnhlfafdldpdgaa.Arr Go.Proofs.Ytnhlfafdldpdgaa.Flt Go.Proofs.Ytnhlfafdldpdgaa.Cell Go.Proofs.YtnhlfafdldpdgaaW.PrintWords Go.Proofs.YtnhlfafdldpdgaaW.PrintLast Go.Proofs.YtnhlfafdldpdgaaW.PrintMore
set_option linter.unusedVariables false
set_option linter.unusedSimpArgs false
attribute [local go_sem] run_bits run_frombits run_store_float
attribute [local go_sem high] bin_geq bin_leq neq_eq
def st1 : MS := noteS ms0 4607182418800017408
def st2 : MS := noteS st1 4611686018427387904
def st3 : MS := noteS st2 4613937818241073152
theorem st0_ok : OkS ms0 := by unfold OkS; decide
theorem st1_ok : OkS st1 := by unfold OkS; decide +kernel
theorem st2_ok : OkS st2 := by unfold OkS; decide +kernel
theorem st3_ok : OkS st3 := by unfold OkS; decide +kernel
theorem st_nan : noteS st3 9221120237041090561 = st3 := by unfold noteS; rw [if_pos (by decide)]
theorem note_go {s t : MS} {x : Nat} (g : Nat) (hx : x < 18446744073709551616) (ho : OkS s) (ht : noteS s x = t) (w : World) (h : MB 49 w g s) : Calls Try.prog 49 #[.pointer (some ⟨g, 0, none⟩), .float .f64 x] w fun e w' => e = .returned (.tuple #[]) ∧ MB 49 w' g t ∧ Fr g w w' := by
  subst ht
  exact note_calls s g x hx ho w h
theorem lit4 (w : World) (T : TypeId) (a b c d : Nat) (l : List UInt64) (hl : l.map (·.toNat) = [a, b, c, d]) : Kd.C kf (w.alloc (Obj.cells #[.float .f64 a, .float .f64 b, .float .f64 c, .float .f64 d] T)) (some ⟨w.heap.size, 0, none⟩) l.length l := by
  have b0 := heap_alloc_new w (Obj.cells #[.float .f64 a, .float .f64 b, .float .f64 c, .float .f64 d] T)
  obtain ⟨x, y, z, u, rfl⟩ : ∃ x y z u, l = [x, y, z, u] := by
    match l, hl with
    | [x, y, z, u], _ => exact ⟨x, y, z, u, rfl⟩
  simp only [List.map_cons, List.map_nil, List.cons.injEq, and_true] at hl
  obtain ⟨rfl, rfl, rfl, rfl⟩ := hl
  refine Kd.C_of_reads (d := (0 : UInt64)) ⟨rfl, by show 4 ≤ 9223372036854775807; decide, fun _ => ⟨_, rfl, fun j hj => ?_⟩⟩
  have hj : j = 0 ∨ j = 1 ∨ j = 2 ∨ j = 3 := by change j < 4 at hj; omega
  rcases hj with rfl | rfl | rfl | rfl
  · exact blk_cell b0 0
  · exact blk_cell b0 1
  · exact blk_cell b0 2
  · exact blk_cell b0 3
theorem MB.new (w : World) (T : TypeId) : MB T (w.alloc (Obj.cells #[.int .i64 0, .float .f64 0, .float .f64 0, .float .f64 0, .float .f64 0] T)) w.heap.size ms0 :=
  ⟨0, 0, heap_alloc_new w _, rfl, rfl, by decide, by decide⟩
set_option maxHeartbeats 4000000 in
theorem awake19_go (w : World) : Calls Try.prog 33 #[] w (Gives (.bool true) w) := by
  have v1 : floatOfInt .f64 1 = 4607182418800017408 := by decide +kernel
  have v2 : floatOfInt .f64 2 = 4611686018427387904 := by decide +kernel
  have v3 : floatOfInt .f64 3 = 4613937818241073152 := by decide +kernel
  have e1 : scoreF 4607182418800017408 4607182418800017408 4616189618054758400 = 4612811918334230528 := by decide +kernel
  have e2 : vict [4611686018427387904, 9221120237041090561, 4607182418800017408, 4607182418800017408] 4 = 2 := by decide +kernel
  have e3 : dueF 9221120237041090561 4617315517961601024 0 4621256167635550208 = true := by decide +kernel
  have e4 : dueF 4607182418800017408 9221120237041090561 0 4621256167635550208 = false := by decide +kernel
  have e5 : decayF 4607182418800017408 4613937818241073152 4602678819172646912 = 4611686018427387904 := by decide +kernel
  have S := fun w => score_calls 4607182418800017408 4607182418800017408 4616189618054758400 w
  have V : ∀ w : World, Calls Try.prog 41 #[.slice (some ⟨w.heap.size, 0, none⟩) 4 4] (w.alloc (Obj.cells #[.float .f64 4611686018427387904, .float .f64 9221120237041090561, .float .f64 4607182418800017408, .float .f64 4607182418800017408] 22)) (Gives (.int .i64 (vict [4611686018427387904, 9221120237041090561, 4607182418800017408, 4607182418800017408] 4)) (w.alloc (Obj.cells #[.float .f64 4611686018427387904, .float .f64 9221120237041090561, .float .f64 4607182418800017408, .float .f64 4607182418800017408] 22))) := fun w => vict_calls (some ⟨w.heap.size, 0, none⟩) 4 [4611686018427387904, 9221120237041090561, 4607182418800017408, 4607182418800017408] (w.alloc _) (lit4 w _ _ _ _ _ _ rfl)
  have D1 := fun w => due_calls 9221120237041090561 4617315517961601024 0 4621256167635550208 w
  have D2 := fun w => due_calls 4607182418800017408 9221120237041090561 0 4621256167635550208 w
  have Y := fun w => decay_calls 4607182418800017408 4613937818241073152 4602678819172646912 (by decide) w
  rw [e1] at S; rw [e2] at V; rw [e3] at D1; rw [e4] at D2; rw [e5] at Y
  have HS := Aside0.mk S; have HV := Aside0.mk V; have HD1 := Aside0.mk D1; have HD2 := Aside0.mk D2; have HY := Aside0.mk Y
  have q1 : (FloatKind.f64.format.order 4612811918334230528 4612811918334230528 == some .eq) = true := by decide +kernel
  have q2 : (FloatKind.f64.format.order 4611686018427387904 4611686018427387904 == some .eq) = true := by decide +kernel
  have q3 : (FloatKind.f64.format.order 4604180019048437077 4604180019048437077 == some .eq) = true := by decide +kernel
  have q4 : (FloatKind.f64.format.order 4607182418800017408 4607182418800017408 == some .eq) = true := by decide +kernel
  have q5 : (FloatKind.f64.format.order 4613937818241073152 4613937818241073152 == some .eq) = true := by decide +kernel
  have k1 : (st3.n : Int) = 3 := by decide +kernel
  have k2 : meanV st3 = 4611686018427387904 := by decide +kernel
  have k3 : spreadV st3 = 4604180019048437077 := by decide +kernel
  have k4 : leastV st3 = 4607182418800017408 := by decide +kernel
  have k5 : mostV st3 = 4613937818241073152 := by decide +kernel
  clear S V D1 D2 Y e1 e2 e3 e4 e5
  have HNN := Aside0.mk nan_calls
  go_enter Try.func33, Try.ntmps33
  go_upto_region 3 with (fail)
  have hm := MB.new w 49
  have hB := (Below.refl w.heap.size w).alloc (Nat.le_refl _) (Obj.cells #[.int .i64 0, .float .f64 0, .float .f64 0, .float .f64 0, .float .f64 0] 49)
  generalize w.alloc (Obj.cells #[.int .i64 0, .float .f64 0, .float .f64 0, .float .f64 0, .float .f64 0] 49) = w0 at *
  have HG := Aside0.mk (Nat.le_refl w.heap.size)
  generalize hg : w.heap.size = g at *
  have HM := Aside0.mk hm; have HB := Aside0.mk hB; clear hm hB
  go_loopw [5] (fun i wr => (∃ k : Nat, i = .int .i64 k ∧ Aside0 (k ≤ 3) ∧ Aside0 (MB 49 wr g (if k = 0 then ms0 else if k = 1 then st1 else if k = 2 then st2 else st3))) ∧ Aside0 (Below g w wr)) (fun i _ => 3 - (intOf i).toNat)
  case atStart => exact ⟨⟨0, rfl, ⟨by omega⟩, HM⟩, HB⟩
  case round =>
    clear HM HB
    obtain ⟨⟨k, rfl, K, HM⟩, HB⟩ := hrel
    rcases (show k = 0 ∨ k = 1 ∨ k = 2 ∨ k = 3 by have := K.out; omega) with rfl | rfl | rfl | rfl
    · replace HM : Aside0 (MB 49 wr g ms0) := HM
      go_wp2_with (go_at_call 49; refine (note_go g (by decide) st0_ok rfl _ HM.out).mono ?_; rintro e w1 ⟨rfl, hm1, hf1⟩; have n_ := Aside0.mk (HB.out.trans hf1.1); clear HB; have HB := n_; clear n_; clear HM; have HM := Aside0.mk hm1; clear hm1 hf1)
      go_roundw
      case rel => exact ⟨⟨1, rfl, ⟨by omega⟩, HM⟩, HB⟩
      case measure => simp [intOf]
    · replace HM : Aside0 (MB 49 wr g st1) := HM
      go_wp2_with (go_at_call 49; refine (note_go g (by decide) st1_ok rfl _ HM.out).mono ?_; rintro e w1 ⟨rfl, hm1, hf1⟩; have n_ := Aside0.mk (HB.out.trans hf1.1); clear HB; have HB := n_; clear n_; clear HM; have HM := Aside0.mk hm1; clear hm1 hf1)
      go_roundw
      case rel => exact ⟨⟨2, rfl, ⟨by omega⟩, HM⟩, HB⟩
      case measure => simp [intOf]
    · replace HM : Aside0 (MB 49 wr g st2) := HM
      go_wp2_with (go_at_call 49; refine (note_go g (by decide) st2_ok rfl _ HM.out).mono ?_; rintro e w1 ⟨rfl, hm1, hf1⟩; have n_ := Aside0.mk (HB.out.trans hf1.1); clear HB; have HB := n_; clear n_; clear HM; have HM := Aside0.mk hm1; clear hm1 hf1)
      go_roundw
      case rel => exact ⟨⟨3, rfl, ⟨by omega⟩, HM⟩, HB⟩
      case measure => simp [intOf]
    · replace HM : Aside0 (MB 49 wr g st3) := HM
      subst hg
      go_upto_region 8 with (first | (go_at_call 57; with_reducible refine (HNN.out _).mono ?_; rintro e w1 ⟨rfl, hb1⟩; have n_ := Aside0.mk (Arr.below_trans HB.out hb1); clear HB; have HB := n_; clear n_; have m_ := Aside0.mk (HM.out.below hb1); clear HM; have HM := m_; clear m_ hb1) | (go_at_call 49; refine (note_go _ (by decide) st3_ok st_nan _ HM.out).mono ?_; rintro e w1 ⟨rfl, hm1, hf1⟩; have n_ := Aside0.mk (HB.out.trans hf1.1); clear HB; have HB := n_; clear n_; clear HM; have HM := Aside0.mk hm1; clear hm1 hf1))
      go_wp2_with (first | (go_at_call 35; with_reducible refine (HS.out _).mono ?_; rintro e w1 ⟨rfl, hb1⟩; have n_ := Aside0.mk (Arr.below_trans HB.out hb1); clear HB; have HB := n_; clear n_; have m_ := Aside0.mk (HM.out.below hb1); clear HM; have HM := m_; clear m_ hb1) | (go_at_call 57; with_reducible refine (HNN.out _).mono ?_; rintro e w1 ⟨rfl, hb1⟩; have n_ := Aside0.mk (Arr.below_trans HB.out hb1); clear HB; have HB := n_; clear n_; have m_ := Aside0.mk (HM.out.below hb1); clear HM; have HM := m_; clear m_ hb1) | (go_at_call 39; with_reducible refine (HD1.out _).mono ?_; rintro e w1 ⟨rfl, hb1⟩; have n_ := Aside0.mk (Arr.below_trans HB.out hb1); clear HB; have HB := n_; clear n_; have m_ := Aside0.mk (HM.out.below hb1); clear HM; have HM := m_; clear m_ hb1) | (go_at_call 39; with_reducible refine (HD2.out _).mono ?_; rintro e w1 ⟨rfl, hb1⟩; have n_ := Aside0.mk (Arr.below_trans HB.out hb1); clear HB; have HB := n_; clear n_; have m_ := Aside0.mk (HM.out.below hb1); clear HM; have HM := m_; clear m_ hb1) | (go_at_call 37; with_reducible refine (HY.out _).mono ?_; rintro e w1 ⟨rfl, hb1⟩; have n_ := Aside0.mk (Arr.below_trans HB.out hb1); clear HB; have HB := n_; clear n_; have m_ := Aside0.mk (HM.out.below hb1); clear HM; have HM := m_; clear m_ hb1) | (go_at_call 41; with_reducible refine (HV.out _).mono ?_; rintro e w1 ⟨rfl, hb1⟩; have n_ := Aside0.mk (Arr.below_trans (HB.out.alloc HB.out.size _) hb1); clear HB; have HB := n_; clear n_; have m_ := Aside0.mk ((HM.out.below ((Below.refl _ _).alloc (Nat.le_refl _) _)).below hb1); clear HM; have HM := m_; clear m_ hb1) | (go_at_call 43; refine (count_calls st3 _ _ HM.out).mono ?_; rintro e w1 ⟨rfl, hb1⟩; have n_ := Aside0.mk (Arr.below_trans HB.out hb1); clear HB; have HB := n_; clear n_; have m_ := Aside0.mk (HM.out.below hb1); clear HM; have HM := m_; clear m_ hb1) | (go_at_call 44; refine (mean_calls st3 _ _ HM.out).mono ?_; rintro e w1 ⟨rfl, hb1⟩; have n_ := Aside0.mk (Arr.below_trans HB.out hb1); clear HB; have HB := n_; clear n_; have m_ := Aside0.mk (HM.out.below hb1); clear HM; have HM := m_; clear m_ hb1) | (go_at_call 45; refine (spread_calls st3 _ _ HM.out).mono ?_; rintro e w1 ⟨rfl, hb1⟩; have n_ := Aside0.mk (Arr.below_trans HB.out hb1); clear HB; have HB := n_; clear n_; have m_ := Aside0.mk (HM.out.below hb1); clear HM; have HM := m_; clear m_ hb1) | (go_at_call 46; refine (least_calls st3 _ _ HM.out).mono ?_; rintro e w1 ⟨rfl, hb1⟩; have n_ := Aside0.mk (Arr.below_trans HB.out hb1); clear HB; have HB := n_; clear n_; have m_ := Aside0.mk (HM.out.below hb1); clear HM; have HM := m_; clear m_ hb1) | (go_at_call 47; refine (most_calls' st3 _ _ HM.out).mono ?_; rintro e w1 ⟨rfl, hb1⟩; have n_ := Aside0.mk (Arr.below_trans HB.out hb1); clear HB; have HB := n_; clear n_; have m_ := Aside0.mk (HM.out.below hb1); clear HM; have HM := m_; clear m_ hb1))
      go_ret
      exact ⟨rfl, HB.out⟩
end Go.Proofs.Ytnhlfafdldpdgaa.Pol
