import Derived.Test.YtnhlfafdldpdgaaMeter
/-! Layer 19: what a meter tells. -/
namespace Go.Proofs.Ytnhlfafdldpdgaa.Pol
open Go Go.RowKit Go.Proofs.Ytnhlfafdldpdgaa.Arr Go.Proofs.Ytnhlfafdldpdgaa.Flt Go.Proofs.Ytnhlfafdldpdgaa.Cell Go.Proofs.YtnhlfafdldpdgaaW.PrintWords Go.Proofs.YtnhlfafdldpdgaaW.PrintLast Go.Proofs.YtnhlfafdldpdgaaW.PrintMore
set_option linter.unusedVariables false
set_option linter.unusedSimpArgs false
attribute [local go_sem] run_bits run_frombits run_store_float
attribute [local go_sem high] bin_geq bin_leq neq_eq
theorem MB.below {T : TypeId} {w w1 : World} {g : Nat} {s : MS} (h : MB T w g s) (hb : Below w.heap.size w w1) : MB T w1 g s := by
  obtain ⟨a, b, h0, h1⟩ := h
  exact ⟨a, b, blk_below h0 hb, h1⟩
theorem MB.lt {T : TypeId} {w : World} {g : Nat} {s : MS} (h : MB T w g s) : g < w.heap.size := by
  obtain ⟨a, b, h0, h1⟩ := h
  exact blk_lt h0
theorem MB.other {T : TypeId} {w w1 : World} {g g' : Nat} {s : MS} (h : MB T w g s) (hf : Fr g' w w1) (hne : g ≠ g') : MB T w1 g s := by
  obtain ⟨a, b, h0, h1⟩ := h
  exact ⟨a, b, (hf.2 g hne (blk_lt h0)).trans h0, h1⟩
theorem count_calls (s : MS) (g : Nat) (w : World) (h : MB 49 w g s) : Calls Try.prog 43 #[.pointer (some ⟨g, 0, none⟩)] w (Gives (.int .i64 s.n) w) := by
  obtain ⟨a, b, h0, ha, hb, la, lb⟩ := h
  have c0 : w.cell? ⟨g, 0, none⟩ = _ := blk_cell h0 0
  have HB := Aside0.mk (Below.refl w.heap.size w)
  clear h0 ha hb la lb
  go_enter Try.func43, Try.ntmps43
  go_wp2
  go_ret
  exact ⟨rfl, HB.out⟩
theorem count_nil (w : World) : Calls Try.prog 43 #[.pointer none] w (Gives (.int .i64 0) w) := by
  have HB := Aside0.mk (Below.refl w.heap.size w)
  go_enter Try.func43, Try.ntmps43
  go_wp2
  go_ret
  exact ⟨rfl, HB.out⟩
theorem note_nil (x : Nat) (w : World) : Calls Try.prog 49 #[.pointer none, .float .f64 x] w (Gives (.tuple #[]) w) := by
  have HB := Aside0.mk (Below.refl w.heap.size w)
  go_enter Try.func49, Try.ntmps49
  go_wp2
  refine bodyPost_ret (results_none rfl _ _ _) rfl ?_
  exact ⟨rfl, HB.out⟩
def meanV (s : MS) : Nat := if s.n = 0 then 0 else cn s.mean
def spreadV (s : MS) : Nat := if s.n = 0 then 0 else vop .quo s.sum (fi (s.n : Int))
def leastV (s : MS) : Nat := if s.n = 0 then infB 1 else s.lo
def mostV (s : MS) : Nat := if s.n = 0 then infB (-1) else s.hi
theorem mean_calls (s : MS) (g : Nat) (w : World) (h : MB 49 w g s) : Calls Try.prog 44 #[.pointer (some ⟨g, 0, none⟩)] w (Gives (.float .f64 (meanV s)) w) := by
  have HM := Aside0.mk h
  have HB := Aside0.mk (Below.refl w.heap.size w)
  unfold meanV
  by_cases n0 : s.n = 0
  · have z0 : ((s.n : Int) == 0) = true := by simp [n0]
    rw [if_pos n0]
    clear n0 h
    go_enter Try.func44, Try.ntmps44
    go_wp2_with (go_at_call 43; refine (count_calls s g _ HM.out).mono ?_; rintro e w1 ⟨rfl, hb1⟩; have n_ := Aside0.mk (Arr.below_trans HB.out hb1); clear HB; have HB := n_; clear n_ hb1)
    go_ret
    exact ⟨rfl, HB.out⟩
  · have z0 : ((s.n : Int) == 0) = false := by simpa using n0
    rw [if_neg n0]
    clear n0 h
    go_enter Try.func44, Try.ntmps44
    go_upto_region 3 with (go_at_call 43; refine (count_calls s g _ HM.out).mono ?_; rintro e w1 ⟨rfl, hb1⟩; have n_ := Aside0.mk (Arr.below_trans HB.out hb1); clear HB; have HB := n_; clear n_; have m_ := Aside0.mk (HM.out.below hb1); clear HM hb1; have HM := m_; clear m_)
    obtain ⟨a, b, h0, ha, hb, la, lb⟩ := HM.out
    have c1 : w1.cell? ⟨g, 1, none⟩ = _ := blk_cell h0 1
    have hC := pcanon_calls a la
    rw [ha] at hC
    have HC := Aside0.mk hC
    clear h0 ha hb la lb HM hC
    go_wp2_with (go_at_call 58; with_reducible refine (HC.out _).mono ?_; rintro e w2 ⟨rfl, hb1⟩; have n_ := Aside0.mk (Arr.below_trans HB.out hb1); clear HB; have HB := n_; clear n_ hb1)
    go_ret
    exact ⟨rfl, HB.out⟩
theorem spread_calls (s : MS) (g : Nat) (w : World) (h : MB 49 w g s) : Calls Try.prog 45 #[.pointer (some ⟨g, 0, none⟩)] w (Gives (.float .f64 (spreadV s)) w) := by
  have HM := Aside0.mk h
  have HB := Aside0.mk (Below.refl w.heap.size w)
  unfold spreadV
  by_cases n0 : s.n = 0
  · have z0 : ((s.n : Int) == 0) = true := by simp [n0]
    rw [if_pos n0]
    clear n0 h
    go_enter Try.func45, Try.ntmps45
    go_wp2_with (go_at_call 43; refine (count_calls s g _ HM.out).mono ?_; rintro e w1 ⟨rfl, hb1⟩; have n_ := Aside0.mk (Arr.below_trans HB.out hb1); clear HB; have HB := n_; clear n_ hb1)
    go_ret
    exact ⟨rfl, HB.out⟩
  · have z0 : ((s.n : Int) == 0) = false := by simpa using n0
    rw [if_neg n0]
    clear n0 h
    go_enter Try.func45, Try.ntmps45
    go_upto_region 3 with (go_at_call 43; refine (count_calls s g _ HM.out).mono ?_; rintro e w1 ⟨rfl, hb1⟩; have n_ := Aside0.mk (Arr.below_trans HB.out hb1); clear HB; have HB := n_; clear n_; have m_ := Aside0.mk (HM.out.below hb1); clear HM hb1; have HM := m_; clear m_)
    obtain ⟨a, b, h0, ha, hb, la, lb⟩ := HM.out
    have hc0 : w1.drew.cell? ⟨g, 0, none⟩ = some (.int .i64 s.n) := blk_cell h0 0
    have hc2 : w1.drew.cell? ⟨g, 2, none⟩ = some (.float .f64 b) := blk_cell h0 2
    have HBB := Aside0.mk hb; have HBD := Aside0.mk HB.out.drew
    clear h0 ha hb la lb HM HB
    refine start_ (n := 12) (S := fun w' => w'.cell? ⟨g, 0, none⟩ = some (.int .i64 s.n) ∧ w'.cell? ⟨g, 2, none⟩ = some (.float .f64 b)) (ds := []) #[false, false, false, false, false, false, false, false, false, false, false, false] (by kernel_rfl) rfl rfl ⟨hc0, hc2⟩ (fun hHeld => ?_)
    refine pure_ (i := 0) (N := some 6) (v := ?_) (a' := ?_) #[true, false, false, false, false, false, false, false, false, false, false, false] rfl rfl (by kernel_rfl) (fun _ _ _ h => h) (Or.inl ⟨by kernel_rfl, ?_⟩) ?_ ?_
    rotate_left
    · intro w'
      go_simp
      with_reducible rfl
    rotate_left
    · simp only [Act.put, List.setIfInBounds_toArray, List.set_cons_zero, List.set_cons_succ, i64_w, i32_w]
      rfl
    refine pure_ (i := 1) (N := some 7) (v := ?_) (a' := ?_) #[true, true, false, false, false, false, false, false, false, false, false, false] rfl rfl (by kernel_rfl) (fun _ _ _ h => h) (Or.inl ⟨by kernel_rfl, ?_⟩) ?_ ?_
    rotate_left
    · intro w'
      go_simp
      with_reducible rfl
    rotate_left
    · simp only [Act.put, List.setIfInBounds_toArray, List.set_cons_zero, List.set_cons_succ, i64_w, i32_w]
      rfl
    refine pure_ (i := 2) (N := some 8) (v := ?_) (a' := ?_) #[true, true, true, false, false, false, false, false, false, false, false, false] rfl rfl (by kernel_rfl) (fun _ _ _ h => h) (Or.inl ⟨by kernel_rfl, ?_⟩) ?_ ?_
    rotate_left
    · intro w'
      go_simp
      with_reducible rfl
    rotate_left
    · simp only [Act.put, List.setIfInBounds_toArray, List.set_cons_zero, List.set_cons_succ, i64_w, i32_w]
      rfl
    refine pure_ (i := 4) (N := some 10) (v := ?_) (a' := ?_) #[true, true, true, false, true, false, false, false, false, false, false, false] rfl rfl (by kernel_rfl) (fun _ _ _ h => h) (Or.inl ⟨by kernel_rfl, ?_⟩) ?_ ?_
    rotate_left
    · intro w'
      go_simp
      with_reducible rfl
    rotate_left
    · simp only [Act.put, List.setIfInBounds_toArray, List.set_cons_zero, List.set_cons_succ, i64_w, i32_w]
      rfl
    refine pure_ (i := 5) (N := some 11) (v := ?_) (a' := ?_) #[true, true, true, false, true, true, false, false, false, false, false, false] rfl rfl (by kernel_rfl) (fun _ _ _ h => h) (Or.inl ⟨by kernel_rfl, ?_⟩) ?_ ?_
    rotate_left
    · intro w'
      go_simp
      with_reducible rfl
    rotate_left
    · simp only [Act.put, List.setIfInBounds_toArray, List.set_cons_zero, List.set_cons_succ, i64_w, i32_w]
      rfl
    refine pure_ (i := 6) (N := some 12) (v := ?_) (a' := ?_) #[true, true, true, false, true, true, true, false, false, false, false, false] rfl rfl (by kernel_rfl) (fun _ _ _ h => h) (Or.inl ⟨by kernel_rfl, ?_⟩) ?_ ?_
    rotate_left
    · intro w'
      go_simp
      with_reducible rfl
    rotate_left
    · simp only [Act.put, List.setIfInBounds_toArray, List.set_cons_zero, List.set_cons_succ, i64_w, i32_w]
      rfl
    refine take_ (i := 3) (N := some 9) (v := ?_) (a' := ?_) #[true, true, true, true, true, true, true, false, false, false, false, false] rfl rfl (by kernel_rfl) (fun _ _ _ h => h) (Or.inl ⟨by kernel_rfl, ?_⟩) hHeld ?_ ?_
    rotate_left
    · rintro w' ⟨s0_, s1_⟩
      go_simp
      with_reducible rfl
    rotate_left
    · simp only [Act.put, List.setIfInBounds_toArray, List.set_cons_zero, List.set_cons_succ, i64_w, i32_w]
      rfl
    refine take_ (i := 7) (N := some 13) (v := ?_) (a' := ?_) #[true, true, true, true, true, true, true, true, false, false, false, false] rfl rfl (by kernel_rfl) (fun _ _ _ h => h) (Or.inl ⟨by kernel_rfl, ?_⟩) hHeld ?_ ?_
    rotate_left
    · rintro w' ⟨s0_, s1_⟩
      go_simp
      with_reducible rfl
    rotate_left
    · simp only [Act.put, List.setIfInBounds_toArray, List.set_cons_zero, List.set_cons_succ, i64_w, i32_w]
      rfl
    refine pure_ (i := 8) (N := some 14) (v := ?_) (a' := ?_) #[true, true, true, true, true, true, true, true, true, false, false, false] rfl rfl (by kernel_rfl) (fun _ _ _ h => h) (Or.inl ⟨by kernel_rfl, ?_⟩) ?_ ?_
    rotate_left
    · intro w'
      go_simp
      with_reducible rfl
    rotate_left
    · simp only [Act.put, List.setIfInBounds_toArray, List.set_cons_zero, List.set_cons_succ, i64_w, i32_w]
      rfl
    refine one_ (i := 9) (N := some 15) #[true, true, true, true, true, true, true, true, true, true, false, false] rfl rfl (by kernel_rfl) (by decide) (fun K hK => ?_)
    obtain ⟨q, X1, hrun, qc, ql, hq⟩ := run_op (P := Try.prog) w1.drew .quo 22 b (floatOfInt .f64 (s.n : Int)) (by simp)
    refine value_ (w1 := ?_) (v := ?_) (by kernel_rfl) rfl ?_ ?_
    rotate_left 2
    · go_simp
      constructor
      · rfl
      · rfl
    have HX1 := Aside0.mk hq; have QC := Aside0.mk qc; clear qc
    refine hK _ _ ⟨pw_cell_below hq hc0, pw_cell_below hq hc2⟩ (fun _ => ?_)
    clear hK K hrun hq
    refine norm_ (a' := ?_) ?_ ?_
    rotate_left
    · show Act.put _ (some 15) _ = _
      simp only [Act.put, List.setIfInBounds_toArray, List.set_cons_zero, List.set_cons_succ, i64_w, i32_w]
      rfl
    refine one_ (i := 10) (N := some 16) #[true, true, true, true, true, true, true, true, true, true, true, false] rfl rfl (by kernel_rfl) (by decide) (fun K hK => ?_)
    refine goes_ Try.func58 (by kernel_rfl) rfl #[.float .f64 q] (by rfl) rfl rfl (by (try simp only [List.map_toArray, List.map_cons, List.map_nil]); first | done | rfl) ?_
    refine (pcanon_calls q ql X1).mono ?_
    rintro e w2 ⟨rfl, hb2⟩
    refine ⟨_, rfl, ?_⟩
    have HX2 := Aside0.mk (Arr.below_trans HX1.out hb2)
    refine hK _ _ ⟨pw_cell_below HX2.out hc0, pw_cell_below HX2.out hc2⟩ (fun _ => ?_)
    clear hK K hb2
    refine norm_ (a' := ?_) ?_ ?_
    rotate_left
    · show Act.put _ (some 16) _ = _
      simp only [Act.put, List.setIfInBounds_toArray, List.set_cons_zero, List.set_cons_succ, i64_w, i32_w]
      rfl
    refine pure_ (i := 11) (N := some 2) (v := ?_) (a' := ?_) #[true, true, true, true, true, true, true, true, true, true, true, true] rfl rfl (by kernel_rfl) (fun _ _ _ h => h) (Or.inl ⟨by kernel_rfl, ?_⟩) ?_ ?_
    rotate_left
    · intro w'
      go_simp
      with_reducible rfl
    rotate_left
    · simp only [Act.put, List.setIfInBounds_toArray, List.set_cons_zero, List.set_cons_succ, i64_w, i32_w]
      rfl
    refine done_ (by kernel_rfl) ?_
    clear hHeld hc0 hc2
    have HBE := Aside0.mk (Arr.below_trans HBD.out HX2.out)
    clear HBD HX1 HX2
    go_wp2
    go_ret
    refine ⟨?_, HBE.out⟩
    exact congrArg (fun x => Ending.returned (Value.float .f64 x)) (show cn q = vop .quo s.sum (fi (s.n : Int)) from by rw [QC.out, vop_l HBB.out])
theorem least_calls (s : MS) (g : Nat) (w : World) (h : MB 49 w g s) : Calls Try.prog 46 #[.pointer (some ⟨g, 0, none⟩)] w (Gives (.float .f64 (leastV s)) w) := by
  have HM := Aside0.mk h
  have HB := Aside0.mk (Below.refl w.heap.size w)
  have HI := Aside0.mk (inf_calls 1)
  unfold leastV
  by_cases n0 : s.n = 0
  · have z0 : ((s.n : Int) == 0) = true := by simp [n0]
    rw [if_pos n0]
    clear n0 h
    go_enter Try.func46, Try.ntmps46
    go_wp2_with (first | (go_at_call 43; refine (count_calls s g _ HM.out).mono ?_; rintro e w1 ⟨rfl, hb1⟩; have n_ := Aside0.mk (Arr.below_trans HB.out hb1); clear HB; have HB := n_; clear n_ hb1) | (go_at_call 32; with_reducible refine (HI.out _).mono ?_; rintro e w1 ⟨rfl, hb1⟩; have n_ := Aside0.mk (Arr.below_trans HB.out hb1); clear HB; have HB := n_; clear n_ hb1))
    go_ret
    exact ⟨rfl, HB.out⟩
  · have z0 : ((s.n : Int) == 0) = false := by simpa using n0
    rw [if_neg n0]
    clear n0 h
    go_enter Try.func46, Try.ntmps46
    go_upto_region 3 with (go_at_call 43; refine (count_calls s g _ HM.out).mono ?_; rintro e w1 ⟨rfl, hb1⟩; have n_ := Aside0.mk (Arr.below_trans HB.out hb1); clear HB; have HB := n_; clear n_; have m_ := Aside0.mk (HM.out.below hb1); clear HM hb1; have HM := m_; clear m_)
    obtain ⟨a, b, h0, ha, hb, la, lb⟩ := HM.out
    have c3 : w1.cell? ⟨g, 3, none⟩ = _ := blk_cell h0 3
    clear h0 ha hb la lb HM
    go_wp2
    go_ret
    exact ⟨rfl, HB.out⟩
theorem most_calls' (s : MS) (g : Nat) (w : World) (h : MB 49 w g s) : Calls Try.prog 47 #[.pointer (some ⟨g, 0, none⟩)] w (Gives (.float .f64 (mostV s)) w) := by
  have HM := Aside0.mk h
  have HB := Aside0.mk (Below.refl w.heap.size w)
  have HI := Aside0.mk (inf_calls (-1))
  unfold mostV
  by_cases n0 : s.n = 0
  · have z0 : ((s.n : Int) == 0) = true := by simp [n0]
    rw [if_pos n0]
    clear n0 h
    go_enter Try.func47, Try.ntmps47
    go_wp2_with (first | (go_at_call 43; refine (count_calls s g _ HM.out).mono ?_; rintro e w1 ⟨rfl, hb1⟩; have n_ := Aside0.mk (Arr.below_trans HB.out hb1); clear HB; have HB := n_; clear n_ hb1) | (go_at_call 32; with_reducible refine (HI.out _).mono ?_; rintro e w1 ⟨rfl, hb1⟩; have n_ := Aside0.mk (Arr.below_trans HB.out hb1); clear HB; have HB := n_; clear n_ hb1))
    go_ret
    exact ⟨rfl, HB.out⟩
  · have z0 : ((s.n : Int) == 0) = false := by simpa using n0
    rw [if_neg n0]
    clear n0 h
    go_enter Try.func47, Try.ntmps47
    go_upto_region 3 with (go_at_call 43; refine (count_calls s g _ HM.out).mono ?_; rintro e w1 ⟨rfl, hb1⟩; have n_ := Aside0.mk (Arr.below_trans HB.out hb1); clear HB; have HB := n_; clear n_; have m_ := Aside0.mk (HM.out.below hb1); clear HM hb1; have HM := m_; clear m_)
    obtain ⟨a, b, h0, ha, hb, la, lb⟩ := HM.out
    have c4 : w1.cell? ⟨g, 4, none⟩ = _ := blk_cell h0 4
    clear h0 ha hb la lb HM
    go_wp2
    go_ret
    exact ⟨rfl, HB.out⟩
theorem nan_calls (w : World) : Calls Try.prog 57 #[] w (Gives (.float .f64 9221120237041090561) w) := by
  have HB := Aside0.mk (Below.refl w.heap.size w)
  go_enter Try.func57, Try.ntmps57
  go_wp2
  go_ret
  exact ⟨rfl, HB.out⟩
end Go.Proofs.Ytnhlfafdldpdgaa.Pol
