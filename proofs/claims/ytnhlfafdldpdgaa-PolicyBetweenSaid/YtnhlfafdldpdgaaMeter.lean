import Derived.Test.YtnhlfafdldpdgaaVict
/-! Layer 19: a meter: what it holds; Note, Count, Mean, Spread, Least, Most. -/
namespace Go.Proofs.Ytnhlfafdldpdgaa.Pol
open Go Go.RowKit Go.Proofs.Ytnhlfafdldpdgaa.Arr Go.Proofs.Ytnhlfafdldpdgaa.Flt Go.Proofs.Ytnhlfafdldpdgaa.Cell Go.Proofs.YtnhlfafdldpdgaaW.PrintWords Go.Proofs.YtnhlfafdldpdgaaW.PrintLast Go.Proofs.YtnhlfafdldpdgaaW.PrintMore
set_option linter.unusedVariables false
set_option linter.unusedSimpArgs false
attribute [local go_sem] run_bits run_frombits
attribute [local go_sem high] bin_geq bin_leq neq_eq
/-- What a meter holds. -/
structure MS where
  n : Nat
  mean : Nat
  sum : Nat
  lo : Nat
  hi : Nat
def ms0 : MS := ⟨0, 0, 0, 0, 0⟩
def meanS (s : MS) (x : Nat) : Nat := vop .add s.mean (vop .quo (vop .sub x s.mean) (fi ((s.n : Int) + 1)))
def sumS (s : MS) (x : Nat) : Nat := vop .add s.sum (vop .mul (vop .sub x s.mean) (vop .sub x (meanS s x)))
def loS (s : MS) (x : Nat) : Nat := if s.n = 0 ∨ ordF x s.lo < 0 then x else s.lo
def hiS (s : MS) (x : Nat) : Nat := if s.n = 0 ∨ 0 < ordF x s.hi then x else s.hi
def noteS (s : MS) (x : Nat) : MS := if isN x then s else ⟨s.n + 1, meanS s x, sumS s x, loS s x, hiS s x⟩
def OkS (s : MS) : Prop := s.n ≤ 1000000 ∧ s.lo < 18446744073709551616 ∧ s.hi < 18446744073709551616
/-- Block g is a meter (of type T) that holds s, all NaN alike. -/
def MB (T : TypeId) (w : World) (g : Nat) (s : MS) : Prop := ∃ a b, w.heap[g]? = some (.cells #[.int .i64 s.n, .float .f64 a, .float .f64 b, .float .f64 s.lo, .float .f64 s.hi] T (0, 0)) ∧ cn a = cn s.mean ∧ cn b = cn s.sum ∧ a < 18446744073709551616 ∧ b < 18446744073709551616
/-- Nothing but block g is touched. -/
def Fr (g : Nat) (w w' : World) : Prop := Below g w w' ∧ ∀ k, k ≠ g → k < w.heap.size → w'.heap[k]? = w.heap[k]?
theorem Fr.refl (g : Nat) (w : World) : Fr g w w := ⟨Below.refl _ _, fun _ _ _ => rfl⟩
theorem Fr.set {g : Nat} {w w' : World} (h : Fr g w w') (i : Nat) (v : Value) : Fr g w (w'.setCell ⟨g, i, none⟩ v) :=
  ⟨h.1.setCell (p := ⟨g, i, none⟩) (Nat.le_refl g) v, fun k hk hl => (Below.heap_setCell w' ⟨g, i, none⟩ v k hk).trans (h.2 k hk hl)⟩
theorem Fr.below {g : Nat} {w w1 w2 : World} (h : Fr g w w1) (hg : g < w1.heap.size) (hb : Below w1.heap.size w1 w2) : Fr g w w2 :=
  ⟨h.1.trans (hb.mono (Nat.le_of_lt hg)), fun k hk hl => (hb.block k (Nat.lt_of_lt_of_le hl h.1.size)).trans (h.2 k hk hl)⟩
theorem Fr.drew {g : Nat} {w w1 : World} (h : Fr g w w1) : Fr g w w1.drew := ⟨h.1.drew, h.2⟩
theorem five {W : World} {g : Nat} {T : TypeId} {a b c d e : Value} (h : W.heap[g]? = some (.cells #[a, b, c, d, e] T (0, 0))) :
    (W.cell? ⟨g, 0, none⟩ = some a ∧ W.cell? ⟨g, 1, none⟩ = some b ∧ W.cell? ⟨g, 2, none⟩ = some c ∧ W.cell? ⟨g, 3, none⟩ = some d ∧ W.cell? ⟨g, 4, none⟩ = some e) ∧ (∀ i, W.frozen? ⟨g, i, none⟩ = false) :=
  ⟨⟨blk_cell h 0, blk_cell h 1, blk_cell h 2, blk_cell h 3, blk_cell h 4⟩, fun i => blk_frozen h i⟩
theorem run_store_float (P : Program) (w : World) (a : Addr) (k : FloatKind) (b : Nat) (m : Mode) : (store a (.float k b) m).run P w = stored P w a (.float k b) m := run_store P w a _ m rfl
attribute [local go_sem] run_store_float
theorem meter_eq {s : MS} {x a b d q m e1 e2 z : Nat} (ha : cn a = cn s.mean) (hb : cn b = cn s.sum) (dc : cn d = vop .sub x a) (qc : cn q = vop .quo d (floatOfInt .f64 ((s.n : Int) + 1))) (mc : cn m = vop .add a q) (e1c : cn e1 = vop .sub x m) (e2c : cn e2 = vop .mul d e1) (zc : cn z = vop .add b e2) : cn m = cn (meanS s x) ∧ cn z = cn (sumS s x) := by
  have hd : cn d = cn (vop .sub x s.mean) := by rw [dc, vop_r ha, cn_vop]
  have hq : cn q = cn (vop .quo (vop .sub x s.mean) (fi ((s.n : Int) + 1))) := by rw [qc, vop_l hd, cn_vop]
  have hm : cn m = cn (meanS s x) := by unfold meanS; rw [mc, vop_l ha, vop_r hq, cn_vop]
  have h1 : cn e1 = cn (vop .sub x (meanS s x)) := by rw [e1c, vop_r hm, cn_vop]
  have h2 : cn e2 = cn (vop .mul (vop .sub x s.mean) (vop .sub x (meanS s x))) := by rw [e2c, vop_l hd, vop_r h1, cn_vop]
  refine ⟨hm, ?_⟩
  unfold sumS
  rw [zc, vop_l hb, vop_r h2, cn_vop]
theorem ord_self (x : Nat) : ordF x x = 0 := (ord_zero x x).2 rfl
set_option maxHeartbeats 4000000 in
theorem note_calls (s : MS) (g x : Nat) (hx : x < 18446744073709551616) (ho : OkS s) (w : World) (h : MB 49 w g s) : Calls Try.prog 49 #[.pointer (some ⟨g, 0, none⟩), .float .f64 x] w fun e w' => e = .returned (.tuple #[]) ∧ MB 49 w' g (noteS s x) ∧ Fr g w w' := by
  obtain ⟨a, b, h0, ha, hb, la, lb⟩ := h
  cases hn : isN x with
  | true =>
    have hs : noteS s x = s := by unfold noteS; rw [hn]; rfl
    rw [hs]
    go_enter Try.func49, Try.ntmps49
    go_wp2
    refine bodyPost_ret (results_none rfl _ _ _) rfl ?_
    exact ⟨rfl, ⟨a, b, h0, ha, hb, la, lb⟩, Fr.refl _ _⟩
  | false =>
    have hs : noteS s x = ⟨s.n + 1, meanS s x, sumS s x, loS s x, hiS s x⟩ := by unfold noteS; rw [hn]; rfl
    rw [hs]
    have B := Aside0.mk h0; have FR := Aside0.mk (Fr.refl g w); have HA := Aside0.mk ha; have HBB := Aside0.mk hb; have HX := Aside0.mk hx; have HO := Aside0.mk ho
    clear h0 ha hb hs hx ho la lb
    go_enter Try.func49, Try.ntmps49
    by_cases n0 : s.n = 0
    · have z0 : ((s.n : Int) == 0) = true := by simp [n0]
      have N0 := Aside0.mk n0; clear n0
      obtain ⟨⟨c0, c1, c2, c3, c4⟩, fr_⟩ := five B.out; have f0 := fr_ 0; have f1 := fr_ 1; have f2 := fr_ 2; have f3 := fr_ 3; have f4 := fr_ 4; clear fr_
      go_upto_region 3 with (fail)
      have b0_ := blk_put (cs' := #[.int .i64 s.n, .float .f64 a, .float .f64 b, .float .f64 x, .float .f64 s.hi]) B.out 3 (.float .f64 x) rfl
      have r0_ := Fr.set FR.out 3 (.float .f64 x)
      have b1_ := blk_put (cs' := #[.int .i64 s.n, .float .f64 a, .float .f64 b, .float .f64 x, .float .f64 x]) b0_ 4 (.float .f64 x) rfl
      have r1_ := Fr.set r0_ 4 (.float .f64 x)
      clear c0 c1 c2 c3 c4 f0 f1 f2 f3 f4
      clear B FR
      generalize hW_ : ((w.setCell ⟨g, 3, none⟩ (.float .f64 x)).setCell ⟨g, 4, none⟩ (.float .f64 x)) = W2 at *
      clear hW_
      have B := Aside0.mk b1_; have FR := Aside0.mk r1_
      clear b0_ r0_ b1_ r1_
      have hO := order_calls x x HX.out HX.out
      rw [ord_self] at hO
      have HO1 := Aside0.mk hO; clear hO
      obtain ⟨⟨c0, c1, c2, c3, c4⟩, fr_⟩ := five B.out; have f0 := fr_ 0; have f1 := fr_ 1; have f2 := fr_ 2; have f3 := fr_ 3; have f4 := fr_ 4; clear fr_
      go_upto_region 7 with (go_at_call 25; with_reducible refine (HO1.out _).mono ?_; rintro e w1 ⟨rfl, hb1⟩; have hlt_ := blk_lt B.out; have b_ := blk_below B.out hb1; have r_ := FR.out.below hlt_ hb1; clear B FR c0 c1 c2 c3 c4 f0 f1 f2 f3 f4; have B := Aside0.mk b_; have FR := Aside0.mk r_; clear b_ r_ hb1 hlt_; obtain ⟨⟨c0, c1, c2, c3, c4⟩, fr_⟩ := five B.out; have f0 := fr_ 0; have f1 := fr_ 1; have f2 := fr_ 2; have f3 := fr_ 3; have f4 := fr_ 4; clear fr_)
      have HLO : Aside0 (loS s x = x) := ⟨by unfold loS; rw [if_pos (Or.inl N0.out)]⟩
      have HHI : Aside0 (hiS s x = x) := ⟨by unfold hiS; rw [if_pos (Or.inl N0.out)]⟩
      have hwn : wrap64 ((s.n : Int) + 1) = (s.n : Int) + 1 := by have := HO.out.1; unfold wrap64; omega
      go_upto_region 8 with (fail)
      have b0_ := blk_put (cs' := #[.int .i64 ((s.n : Int) + 1), .float .f64 a, .float .f64 b, .float .f64 x, .float .f64 x]) B.out 0 (.int .i64 ((s.n : Int) + 1)) rfl
      have r0_ := Fr.set FR.out 0 (.int .i64 ((s.n : Int) + 1))
      clear c0 c1 c2 c3 c4 f0 f1 f2 f3 f4
      clear B FR
      generalize hW_ : (w1.setCell ⟨g, 0, none⟩ (.int .i64 ((s.n : Int) + 1))) = V2 at *
      clear hW_
      have B := Aside0.mk b0_; have FR := Aside0.mk r0_
      clear b0_ r0_
      obtain ⟨⟨c0, c1, c2, c3, c4⟩, fr_⟩ := five B.out; have f0 := fr_ 0; have f1 := fr_ 1; have f2 := fr_ 2; have f3 := fr_ 3; have f4 := fr_ 4; clear fr_
      obtain ⟨d, W3, hrun, dc, dl, hq⟩ := run_op (P := Try.prog) V2 .sub 22 x a (by simp)
      go_upto_region 9 with (fail)
      have hlt_ := blk_lt B.out
      have b_ := blk_below B.out hq; have r_ := FR.out.below hlt_ hq
      clear c0 c1 c2 c3 c4 f0 f1 f2 f3 f4
      clear B FR hrun hq hlt_
      have B := Aside0.mk b_; have FR := Aside0.mk r_; clear b_ r_
      obtain ⟨⟨c0, c1, c2, c3, c4⟩, fr_⟩ := five B.out; have f0 := fr_ 0; have f1 := fr_ 1; have f2 := fr_ 2; have f3 := fr_ 3; have f4 := fr_ 4; clear fr_
      obtain ⟨q, W4, hrun, qc, ql, hq⟩ := run_op (P := Try.prog) W3 .quo 22 d (floatOfInt .f64 ((s.n : Int) + 1)) (by simp)
      go_upto_region 10 with (fail)
      have hlt_ := blk_lt B.out
      have b_ := blk_below B.out hq; have r_ := FR.out.below hlt_ hq
      clear c0 c1 c2 c3 c4 f0 f1 f2 f3 f4
      clear B FR hrun hq hlt_
      have B := Aside0.mk b_; have FR := Aside0.mk r_; clear b_ r_
      obtain ⟨⟨c0, c1, c2, c3, c4⟩, fr_⟩ := five B.out; have f0 := fr_ 0; have f1 := fr_ 1; have f2 := fr_ 2; have f3 := fr_ 3; have f4 := fr_ 4; clear fr_
      obtain ⟨m, W5, hrun, mc, ml, hq⟩ := run_op (P := Try.prog) W4 .add 22 a q (by simp)
      have hlt_ := blk_lt B.out
      have b_ := blk_below B.out hq; have r_ := FR.out.below hlt_ hq
      have k1_ : W5.cell? ⟨g, 1, none⟩ = some (.float .f64 a) := blk_cell b_ 1; have k2_ : W5.frozen? ⟨g, 1, none⟩ = false := blk_frozen b_ 1
      have B' := Aside0.mk b_; have FR' := Aside0.mk r_; clear b_ r_ hlt_ hq
      go_upto_region 11 with (fail)
      clear c0 c1 c2 c3 c4 f0 f1 f2 f3 f4
      clear B FR hrun k1_ k2_
      have B := B'; have FR := FR'; clear B' FR'
      obtain ⟨⟨c0, c1, c2, c3, c4⟩, fr_⟩ := five B.out; have f0 := fr_ 0; have f1 := fr_ 1; have f2 := fr_ 2; have f3 := fr_ 3; have f4 := fr_ 4; clear fr_
      have b0_ := blk_put (cs' := #[.int .i64 ((s.n : Int) + 1), .float .f64 m, .float .f64 b, .float .f64 x, .float .f64 x]) B.out 1 (.float .f64 m) rfl
      have r0_ := Fr.set FR.out 1 (.float .f64 m)
      clear c0 c1 c2 c3 c4 f0 f1 f2 f3 f4
      clear B FR
      generalize hW_ : (W5.setCell ⟨g, 1, none⟩ (.float .f64 m)) = W6 at *
      clear hW_
      have B := Aside0.mk b0_; have FR := Aside0.mk r0_
      clear b0_ r0_
      have hc1 : W6.drew.cell? ⟨g, 1, none⟩ = some (.float .f64 m) := blk_cell B.out 1
      have hc2 : W6.drew.cell? ⟨g, 2, none⟩ = some (.float .f64 b) := blk_cell B.out 2
      have BD := Aside0.mk (blk_drew B.out); have FD := Aside0.mk FR.out.drew; clear B FR
      refine start_ (n := 16) (S := fun w' => w'.cell? ⟨g, 1, none⟩ = some (.float .f64 m) ∧ w'.cell? ⟨g, 2, none⟩ = some (.float .f64 b)) (ds := [15]) #[false, false, false, false, false, false, false, false, false, false, false, false, false, false, false, false] (by kernel_rfl) rfl rfl ⟨hc1, hc2⟩ (fun hHeld => ?_)
      refine pure_ (i := 0) (N := some 76) (v := ?_) (a' := ?_) #[true, false, false, false, false, false, false, false, false, false, false, false, false, false, false, false] rfl rfl (by kernel_rfl) (fun _ _ _ h => h) (Or.inl ⟨by kernel_rfl, ?_⟩) ?_ ?_
      rotate_left
      · intro w'
        go_simp
        with_reducible rfl
      rotate_left
      · simp only [Act.put, List.setIfInBounds_toArray, List.set_cons_zero, List.set_cons_succ, i64_w, i32_w]
        rfl
      refine pure_ (i := 1) (N := some 77) (v := ?_) (a' := ?_) #[true, true, false, false, false, false, false, false, false, false, false, false, false, false, false, false] rfl rfl (by kernel_rfl) (fun _ _ _ h => h) (Or.inl ⟨by kernel_rfl, ?_⟩) ?_ ?_
      rotate_left
      · intro w'
        go_simp
        with_reducible rfl
      rotate_left
      · simp only [Act.put, List.setIfInBounds_toArray, List.set_cons_zero, List.set_cons_succ, i64_w, i32_w]
        rfl
      refine pure_ (i := 2) (N := some 78) (v := ?_) (a' := ?_) #[true, true, true, false, false, false, false, false, false, false, false, false, false, false, false, false] rfl rfl (by kernel_rfl) (fun _ _ _ h => h) (Or.inl ⟨by kernel_rfl, ?_⟩) ?_ ?_
      rotate_left
      · intro w'
        go_simp
        with_reducible rfl
      rotate_left
      · simp only [Act.put, List.setIfInBounds_toArray, List.set_cons_zero, List.set_cons_succ, i64_w, i32_w]
        rfl
      refine pure_ (i := 4) (N := some 80) (v := ?_) (a' := ?_) #[true, true, true, false, true, false, false, false, false, false, false, false, false, false, false, false] rfl rfl (by kernel_rfl) (fun _ _ _ h => h) (Or.inl ⟨by kernel_rfl, ?_⟩) ?_ ?_
      rotate_left
      · intro w'
        go_simp
        with_reducible rfl
      rotate_left
      · simp only [Act.put, List.setIfInBounds_toArray, List.set_cons_zero, List.set_cons_succ, i64_w, i32_w]
        rfl
      refine pure_ (i := 5) (N := some 81) (v := ?_) (a' := ?_) #[true, true, true, false, true, true, false, false, false, false, false, false, false, false, false, false] rfl rfl (by kernel_rfl) (fun _ _ _ h => h) (Or.inl ⟨by kernel_rfl, ?_⟩) ?_ ?_
      rotate_left
      · intro w'
        go_simp
        with_reducible rfl
      rotate_left
      · simp only [Act.put, List.setIfInBounds_toArray, List.set_cons_zero, List.set_cons_succ, i64_w, i32_w]
        rfl
      refine pure_ (i := 6) (N := some 82) (v := ?_) (a' := ?_) #[true, true, true, false, true, true, true, false, false, false, false, false, false, false, false, false] rfl rfl (by kernel_rfl) (fun _ _ _ h => h) (Or.inl ⟨by kernel_rfl, ?_⟩) ?_ ?_
      rotate_left
      · intro w'
        go_simp
        with_reducible rfl
      rotate_left
      · simp only [Act.put, List.setIfInBounds_toArray, List.set_cons_zero, List.set_cons_succ, i64_w, i32_w]
        rfl
      refine pure_ (i := 7) (N := some 83) (v := ?_) (a' := ?_) #[true, true, true, false, true, true, true, true, false, false, false, false, false, false, false, false] rfl rfl (by kernel_rfl) (fun _ _ _ h => h) (Or.inl ⟨by kernel_rfl, ?_⟩) ?_ ?_
      rotate_left
      · intro w'
        go_simp
        with_reducible rfl
      rotate_left
      · simp only [Act.put, List.setIfInBounds_toArray, List.set_cons_zero, List.set_cons_succ, i64_w, i32_w]
        rfl
      refine pure_ (i := 8) (N := some 84) (v := ?_) (a' := ?_) #[true, true, true, false, true, true, true, true, true, false, false, false, false, false, false, false] rfl rfl (by kernel_rfl) (fun _ _ _ h => h) (Or.inl ⟨by kernel_rfl, ?_⟩) ?_ ?_
      rotate_left
      · intro w'
        go_simp
        with_reducible rfl
      rotate_left
      · simp only [Act.put, List.setIfInBounds_toArray, List.set_cons_zero, List.set_cons_succ, i64_w, i32_w]
        rfl
      refine take_ (i := 3) (N := some 79) (v := ?_) (a' := ?_) #[true, true, true, true, true, true, true, true, true, false, false, false, false, false, false, false] rfl rfl (by kernel_rfl) (fun _ _ _ h => h) (Or.inl ⟨by kernel_rfl, ?_⟩) hHeld ?_ ?_
      rotate_left
      · rintro w' ⟨s0_, s1_⟩
        go_simp
        with_reducible rfl
      rotate_left
      · simp only [Act.put, List.setIfInBounds_toArray, List.set_cons_zero, List.set_cons_succ, i64_w, i32_w]
        rfl
      refine take_ (i := 9) (N := some 85) (v := ?_) (a' := ?_) #[true, true, true, true, true, true, true, true, true, true, false, false, false, false, false, false] rfl rfl (by kernel_rfl) (fun _ _ _ h => h) (Or.inl ⟨by kernel_rfl, ?_⟩) hHeld ?_ ?_
      rotate_left
      · rintro w' ⟨s0_, s1_⟩
        go_simp
        with_reducible rfl
      rotate_left
      · simp only [Act.put, List.setIfInBounds_toArray, List.set_cons_zero, List.set_cons_succ, i64_w, i32_w]
        rfl
      refine one_ (i := 10) (N := some 86) #[true, true, true, true, true, true, true, true, true, true, true, false, false, false, false, false] rfl rfl (by kernel_rfl) (by decide) (fun K hK => ?_)
      obtain ⟨e1, X1, hrun, e1c, e1l, hq⟩ := run_op (P := Try.prog) W6.drew .sub 22 x m (by simp)
      refine value_ (w1 := ?_) (v := ?_) (by kernel_rfl) rfl ?_ ?_
      rotate_left 2
      · go_simp
        constructor
        · rfl
        · rfl
      have hlt_ := blk_lt BD.out; have b_ := blk_below BD.out hq; have r_ := FD.out.below hlt_ hq; clear BD FD; have BD := Aside0.mk b_; have FD := Aside0.mk r_; clear b_ r_ hlt_
      refine hK _ _ ⟨blk_cell BD.out 1, blk_cell BD.out 2⟩ (fun _ => ?_)
      clear hK K hrun hq
      refine norm_ (a' := ?_) ?_ ?_
      rotate_left
      · show Act.put _ (some 86) _ = _
        simp only [Act.put, List.setIfInBounds_toArray, List.set_cons_zero, List.set_cons_succ, i64_w, i32_w]
        rfl
      refine one_ (i := 11) (N := some 87) #[true, true, true, true, true, true, true, true, true, true, true, true, false, false, false, false] rfl rfl (by kernel_rfl) (by decide) (fun K hK => ?_)
      obtain ⟨e2, X2, hrun, e2c, e2l, hq⟩ := run_op (P := Try.prog) X1 .mul 22 d e1 (by simp)
      refine value_ (w1 := ?_) (v := ?_) (by kernel_rfl) rfl ?_ ?_
      rotate_left 2
      · go_simp
        constructor
        · rfl
        · rfl
      have hlt_ := blk_lt BD.out; have b_ := blk_below BD.out hq; have r_ := FD.out.below hlt_ hq; clear BD FD; have BD := Aside0.mk b_; have FD := Aside0.mk r_; clear b_ r_ hlt_
      refine hK _ _ ⟨blk_cell BD.out 1, blk_cell BD.out 2⟩ (fun _ => ?_)
      clear hK K hrun hq
      refine norm_ (a' := ?_) ?_ ?_
      rotate_left
      · show Act.put _ (some 87) _ = _
        simp only [Act.put, List.setIfInBounds_toArray, List.set_cons_zero, List.set_cons_succ, i64_w, i32_w]
        rfl
      refine one_ (i := 12) (N := some 88) #[true, true, true, true, true, true, true, true, true, true, true, true, true, false, false, false] rfl rfl (by kernel_rfl) (by decide) (fun K hK => ?_)
      obtain ⟨z, X3, hrun, zc, zl, hq⟩ := run_op (P := Try.prog) X2 .add 22 b e2 (by simp)
      refine value_ (w1 := ?_) (v := ?_) (by kernel_rfl) rfl ?_ ?_
      rotate_left 2
      · go_simp
        constructor
        · rfl
        · rfl
      have hlt_ := blk_lt BD.out; have b_ := blk_below BD.out hq; have r_ := FD.out.below hlt_ hq; clear BD FD; have BD := Aside0.mk b_; have FD := Aside0.mk r_; clear b_ r_ hlt_
      refine hK _ _ ⟨blk_cell BD.out 1, blk_cell BD.out 2⟩ (fun _ => ?_)
      clear hK K hrun hq
      refine norm_ (a' := ?_) ?_ ?_
      rotate_left
      · show Act.put _ (some 88) _ = _
        simp only [Act.put, List.setIfInBounds_toArray, List.set_cons_zero, List.set_cons_succ, i64_w, i32_w]
        rfl
      refine pure_ (i := 13) (N := some 89) (v := ?_) (a' := ?_) #[true, true, true, true, true, true, true, true, true, true, true, true, true, true, false, false] rfl rfl (by kernel_rfl) (fun _ _ _ h => h) (Or.inl ⟨by kernel_rfl, ?_⟩) ?_ ?_
      rotate_left
      · intro w'
        go_simp
        with_reducible rfl
      rotate_left
      · simp only [Act.put, List.setIfInBounds_toArray, List.set_cons_zero, List.set_cons_succ, i64_w, i32_w]
        rfl
      refine pure_ (i := 14) (N := some 90) (v := ?_) (a' := ?_) #[true, true, true, true, true, true, true, true, true, true, true, true, true, true, true, false] rfl rfl (by kernel_rfl) (fun _ _ _ h => h) (Or.inl ⟨by kernel_rfl, ?_⟩) ?_ ?_
      rotate_left
      · intro w'
        go_simp
        with_reducible rfl
      rotate_left
      · simp only [Act.put, List.setIfInBounds_toArray, List.set_cons_zero, List.set_cons_succ, i64_w, i32_w]
        rfl
      refine last_ (i := 15) (N := none) #[true, true, true, true, true, true, true, true, true, true, true, true, true, true, true, true] rfl rfl (by kernel_rfl) (by decide) (fun K hK => ?_)
      have q2 : X3.cell? ⟨g, 2, none⟩ = some (.float .f64 b) := blk_cell BD.out 2
      have qf : X3.frozen? ⟨g, 2, none⟩ = false := blk_frozen BD.out 2
      refine skip_ (w1 := ?_) (by kernel_rfl) rfl ?_ ?_
      rotate_left
      · go_simp
        rfl
      refine hK _ _ ?_
      clear hK K q2 qf
      refine done_ (by kernel_rfl) ?_
      clear hHeld hc1 hc2
      have b_ := blk_put (cs' := #[.int .i64 ((s.n : Int) + 1), .float .f64 m, .float .f64 z, .float .f64 x, .float .f64 x]) BD.out 2 (.float .f64 z) rfl
      have r_ := FD.out.set 2 (.float .f64 z)
      have q_ := meter_eq (s := s) HA.out HBB.out dc qc mc e1c e2c zc
      (try simp only [Exit.inBlock, Exit.then])
      refine bodyPost_end (results_none rfl _ _ _) rfl ?_
      refine ⟨rfl, ⟨m, z, ?_, q_.1, q_.2, ml, zl⟩, r_⟩
      rw [HLO.out, HHI.out]
      exact b_
    · have z0 : ((s.n : Int) == 0) = false := by simpa using n0
      have N0 := Aside0.mk n0; clear n0
      have HO1 := Aside0.mk (order_calls x s.lo HX.out HO.out.2.1); have HO2 := Aside0.mk (order_calls x s.hi HX.out HO.out.2.2)
      by_cases p1 : ordF x s.lo < 0
      · by_cases p2 : 0 < ordF x s.hi
        · have Q1 := Aside0.mk p1; have Q2 := Aside0.mk p2
          obtain ⟨⟨c0, c1, c2, c3, c4⟩, fr_⟩ := five B.out; have f0 := fr_ 0; have f1 := fr_ 1; have f2 := fr_ 2; have f3 := fr_ 3; have f4 := fr_ 4; clear fr_
          go_upto_region 5 with (go_at_call 25; with_reducible refine (HO1.out _).mono ?_; rintro e w1 ⟨rfl, hb1⟩; have hlt_ := blk_lt B.out; have b_ := blk_below B.out hb1; have r_ := FR.out.below hlt_ hb1; clear B FR c0 c1 c2 c3 c4 f0 f1 f2 f3 f4; have B := Aside0.mk b_; have FR := Aside0.mk r_; clear b_ r_ hb1 hlt_; obtain ⟨⟨c0, c1, c2, c3, c4⟩, fr_⟩ := five B.out; have f0 := fr_ 0; have f1 := fr_ 1; have f2 := fr_ 2; have f3 := fr_ 3; have f4 := fr_ 4; clear fr_)
          have b0_ := blk_put (cs' := #[.int .i64 s.n, .float .f64 a, .float .f64 b, .float .f64 x, .float .f64 s.hi]) B.out 3 (.float .f64 x) rfl
          have r0_ := Fr.set FR.out 3 (.float .f64 x)
          clear c0 c1 c2 c3 c4 f0 f1 f2 f3 f4
          clear B FR
          generalize hW_ : (w1.setCell ⟨g, 3, none⟩ (.float .f64 x)) = U2 at *
          clear hW_
          have B := Aside0.mk b0_; have FR := Aside0.mk r0_
          clear b0_ r0_
          obtain ⟨⟨c0, c1, c2, c3, c4⟩, fr_⟩ := five B.out; have f0 := fr_ 0; have f1 := fr_ 1; have f2 := fr_ 2; have f3 := fr_ 3; have f4 := fr_ 4; clear fr_
          go_upto_region 7 with (go_at_call 25; with_reducible refine (HO2.out _).mono ?_; rintro e w1 ⟨rfl, hb1⟩; have hlt_ := blk_lt B.out; have b_ := blk_below B.out hb1; have r_ := FR.out.below hlt_ hb1; clear B FR c0 c1 c2 c3 c4 f0 f1 f2 f3 f4; have B := Aside0.mk b_; have FR := Aside0.mk r_; clear b_ r_ hb1 hlt_; obtain ⟨⟨c0, c1, c2, c3, c4⟩, fr_⟩ := five B.out; have f0 := fr_ 0; have f1 := fr_ 1; have f2 := fr_ 2; have f3 := fr_ 3; have f4 := fr_ 4; clear fr_)
          have b0_ := blk_put (cs' := #[.int .i64 s.n, .float .f64 a, .float .f64 b, .float .f64 x, .float .f64 x]) B.out 4 (.float .f64 x) rfl
          have r0_ := Fr.set FR.out 4 (.float .f64 x)
          clear c0 c1 c2 c3 c4 f0 f1 f2 f3 f4
          clear B FR
          generalize hW_ : (w1.setCell ⟨g, 4, none⟩ (.float .f64 x)) = U3 at *
          clear hW_
          have B := Aside0.mk b0_; have FR := Aside0.mk r0_
          clear b0_ r0_
          obtain ⟨⟨c0, c1, c2, c3, c4⟩, fr_⟩ := five B.out; have f0 := fr_ 0; have f1 := fr_ 1; have f2 := fr_ 2; have f3 := fr_ 3; have f4 := fr_ 4; clear fr_
          have HLO : Aside0 (loS s x = x) := ⟨by unfold loS; rw [if_pos (Or.inr Q1.out)]⟩
          have HHI : Aside0 (hiS s x = x) := ⟨by unfold hiS; rw [if_pos (Or.inr Q2.out)]⟩
          have hwn : wrap64 ((s.n : Int) + 1) = (s.n : Int) + 1 := by have := HO.out.1; unfold wrap64; omega
          go_upto_region 8 with (fail)
          have b0_ := blk_put (cs' := #[.int .i64 ((s.n : Int) + 1), .float .f64 a, .float .f64 b, .float .f64 x, .float .f64 x]) B.out 0 (.int .i64 ((s.n : Int) + 1)) rfl
          have r0_ := Fr.set FR.out 0 (.int .i64 ((s.n : Int) + 1))
          clear c0 c1 c2 c3 c4 f0 f1 f2 f3 f4
          clear B FR
          generalize hW_ : (U3.setCell ⟨g, 0, none⟩ (.int .i64 ((s.n : Int) + 1))) = V2 at *
          clear hW_
          have B := Aside0.mk b0_; have FR := Aside0.mk r0_
          clear b0_ r0_
          obtain ⟨⟨c0, c1, c2, c3, c4⟩, fr_⟩ := five B.out; have f0 := fr_ 0; have f1 := fr_ 1; have f2 := fr_ 2; have f3 := fr_ 3; have f4 := fr_ 4; clear fr_
          obtain ⟨d, W3, hrun, dc, dl, hq⟩ := run_op (P := Try.prog) V2 .sub 22 x a (by simp)
          go_upto_region 9 with (fail)
          have hlt_ := blk_lt B.out
          have b_ := blk_below B.out hq; have r_ := FR.out.below hlt_ hq
          clear c0 c1 c2 c3 c4 f0 f1 f2 f3 f4
          clear B FR hrun hq hlt_
          have B := Aside0.mk b_; have FR := Aside0.mk r_; clear b_ r_
          obtain ⟨⟨c0, c1, c2, c3, c4⟩, fr_⟩ := five B.out; have f0 := fr_ 0; have f1 := fr_ 1; have f2 := fr_ 2; have f3 := fr_ 3; have f4 := fr_ 4; clear fr_
          obtain ⟨q, W4, hrun, qc, ql, hq⟩ := run_op (P := Try.prog) W3 .quo 22 d (floatOfInt .f64 ((s.n : Int) + 1)) (by simp)
          go_upto_region 10 with (fail)
          have hlt_ := blk_lt B.out
          have b_ := blk_below B.out hq; have r_ := FR.out.below hlt_ hq
          clear c0 c1 c2 c3 c4 f0 f1 f2 f3 f4
          clear B FR hrun hq hlt_
          have B := Aside0.mk b_; have FR := Aside0.mk r_; clear b_ r_
          obtain ⟨⟨c0, c1, c2, c3, c4⟩, fr_⟩ := five B.out; have f0 := fr_ 0; have f1 := fr_ 1; have f2 := fr_ 2; have f3 := fr_ 3; have f4 := fr_ 4; clear fr_
          obtain ⟨m, W5, hrun, mc, ml, hq⟩ := run_op (P := Try.prog) W4 .add 22 a q (by simp)
          have hlt_ := blk_lt B.out
          have b_ := blk_below B.out hq; have r_ := FR.out.below hlt_ hq
          have k1_ : W5.cell? ⟨g, 1, none⟩ = some (.float .f64 a) := blk_cell b_ 1; have k2_ : W5.frozen? ⟨g, 1, none⟩ = false := blk_frozen b_ 1
          have B' := Aside0.mk b_; have FR' := Aside0.mk r_; clear b_ r_ hlt_ hq
          go_upto_region 11 with (fail)
          clear c0 c1 c2 c3 c4 f0 f1 f2 f3 f4
          clear B FR hrun k1_ k2_
          have B := B'; have FR := FR'; clear B' FR'
          obtain ⟨⟨c0, c1, c2, c3, c4⟩, fr_⟩ := five B.out; have f0 := fr_ 0; have f1 := fr_ 1; have f2 := fr_ 2; have f3 := fr_ 3; have f4 := fr_ 4; clear fr_
          have b0_ := blk_put (cs' := #[.int .i64 ((s.n : Int) + 1), .float .f64 m, .float .f64 b, .float .f64 x, .float .f64 x]) B.out 1 (.float .f64 m) rfl
          have r0_ := Fr.set FR.out 1 (.float .f64 m)
          clear c0 c1 c2 c3 c4 f0 f1 f2 f3 f4
          clear B FR
          generalize hW_ : (W5.setCell ⟨g, 1, none⟩ (.float .f64 m)) = W6 at *
          clear hW_
          have B := Aside0.mk b0_; have FR := Aside0.mk r0_
          clear b0_ r0_
          have hc1 : W6.drew.cell? ⟨g, 1, none⟩ = some (.float .f64 m) := blk_cell B.out 1
          have hc2 : W6.drew.cell? ⟨g, 2, none⟩ = some (.float .f64 b) := blk_cell B.out 2
          have BD := Aside0.mk (blk_drew B.out); have FD := Aside0.mk FR.out.drew; clear B FR
          refine start_ (n := 16) (S := fun w' => w'.cell? ⟨g, 1, none⟩ = some (.float .f64 m) ∧ w'.cell? ⟨g, 2, none⟩ = some (.float .f64 b)) (ds := [15]) #[false, false, false, false, false, false, false, false, false, false, false, false, false, false, false, false] (by kernel_rfl) rfl rfl ⟨hc1, hc2⟩ (fun hHeld => ?_)
          refine pure_ (i := 0) (N := some 76) (v := ?_) (a' := ?_) #[true, false, false, false, false, false, false, false, false, false, false, false, false, false, false, false] rfl rfl (by kernel_rfl) (fun _ _ _ h => h) (Or.inl ⟨by kernel_rfl, ?_⟩) ?_ ?_
          rotate_left
          · intro w'
            go_simp
            with_reducible rfl
          rotate_left
          · simp only [Act.put, List.setIfInBounds_toArray, List.set_cons_zero, List.set_cons_succ, i64_w, i32_w]
            rfl
          refine pure_ (i := 1) (N := some 77) (v := ?_) (a' := ?_) #[true, true, false, false, false, false, false, false, false, false, false, false, false, false, false, false] rfl rfl (by kernel_rfl) (fun _ _ _ h => h) (Or.inl ⟨by kernel_rfl, ?_⟩) ?_ ?_
          rotate_left
          · intro w'
            go_simp
            with_reducible rfl
          rotate_left
          · simp only [Act.put, List.setIfInBounds_toArray, List.set_cons_zero, List.set_cons_succ, i64_w, i32_w]
            rfl
          refine pure_ (i := 2) (N := some 78) (v := ?_) (a' := ?_) #[true, true, true, false, false, false, false, false, false, false, false, false, false, false, false, false] rfl rfl (by kernel_rfl) (fun _ _ _ h => h) (Or.inl ⟨by kernel_rfl, ?_⟩) ?_ ?_
          rotate_left
          · intro w'
            go_simp
            with_reducible rfl
          rotate_left
          · simp only [Act.put, List.setIfInBounds_toArray, List.set_cons_zero, List.set_cons_succ, i64_w, i32_w]
            rfl
          refine pure_ (i := 4) (N := some 80) (v := ?_) (a' := ?_) #[true, true, true, false, true, false, false, false, false, false, false, false, false, false, false, false] rfl rfl (by kernel_rfl) (fun _ _ _ h => h) (Or.inl ⟨by kernel_rfl, ?_⟩) ?_ ?_
          rotate_left
          · intro w'
            go_simp
            with_reducible rfl
          rotate_left
          · simp only [Act.put, List.setIfInBounds_toArray, List.set_cons_zero, List.set_cons_succ, i64_w, i32_w]
            rfl
          refine pure_ (i := 5) (N := some 81) (v := ?_) (a' := ?_) #[true, true, true, false, true, true, false, false, false, false, false, false, false, false, false, false] rfl rfl (by kernel_rfl) (fun _ _ _ h => h) (Or.inl ⟨by kernel_rfl, ?_⟩) ?_ ?_
          rotate_left
          · intro w'
            go_simp
            with_reducible rfl
          rotate_left
          · simp only [Act.put, List.setIfInBounds_toArray, List.set_cons_zero, List.set_cons_succ, i64_w, i32_w]
            rfl
          refine pure_ (i := 6) (N := some 82) (v := ?_) (a' := ?_) #[true, true, true, false, true, true, true, false, false, false, false, false, false, false, false, false] rfl rfl (by kernel_rfl) (fun _ _ _ h => h) (Or.inl ⟨by kernel_rfl, ?_⟩) ?_ ?_
          rotate_left
          · intro w'
            go_simp
            with_reducible rfl
          rotate_left
          · simp only [Act.put, List.setIfInBounds_toArray, List.set_cons_zero, List.set_cons_succ, i64_w, i32_w]
            rfl
          refine pure_ (i := 7) (N := some 83) (v := ?_) (a' := ?_) #[true, true, true, false, true, true, true, true, false, false, false, false, false, false, false, false] rfl rfl (by kernel_rfl) (fun _ _ _ h => h) (Or.inl ⟨by kernel_rfl, ?_⟩) ?_ ?_
          rotate_left
          · intro w'
            go_simp
            with_reducible rfl
          rotate_left
          · simp only [Act.put, List.setIfInBounds_toArray, List.set_cons_zero, List.set_cons_succ, i64_w, i32_w]
            rfl
          refine pure_ (i := 8) (N := some 84) (v := ?_) (a' := ?_) #[true, true, true, false, true, true, true, true, true, false, false, false, false, false, false, false] rfl rfl (by kernel_rfl) (fun _ _ _ h => h) (Or.inl ⟨by kernel_rfl, ?_⟩) ?_ ?_
          rotate_left
          · intro w'
            go_simp
            with_reducible rfl
          rotate_left
          · simp only [Act.put, List.setIfInBounds_toArray, List.set_cons_zero, List.set_cons_succ, i64_w, i32_w]
            rfl
          refine take_ (i := 3) (N := some 79) (v := ?_) (a' := ?_) #[true, true, true, true, true, true, true, true, true, false, false, false, false, false, false, false] rfl rfl (by kernel_rfl) (fun _ _ _ h => h) (Or.inl ⟨by kernel_rfl, ?_⟩) hHeld ?_ ?_
          rotate_left
          · rintro w' ⟨s0_, s1_⟩
            go_simp
            with_reducible rfl
          rotate_left
          · simp only [Act.put, List.setIfInBounds_toArray, List.set_cons_zero, List.set_cons_succ, i64_w, i32_w]
            rfl
          refine take_ (i := 9) (N := some 85) (v := ?_) (a' := ?_) #[true, true, true, true, true, true, true, true, true, true, false, false, false, false, false, false] rfl rfl (by kernel_rfl) (fun _ _ _ h => h) (Or.inl ⟨by kernel_rfl, ?_⟩) hHeld ?_ ?_
          rotate_left
          · rintro w' ⟨s0_, s1_⟩
            go_simp
            with_reducible rfl
          rotate_left
          · simp only [Act.put, List.setIfInBounds_toArray, List.set_cons_zero, List.set_cons_succ, i64_w, i32_w]
            rfl
          refine one_ (i := 10) (N := some 86) #[true, true, true, true, true, true, true, true, true, true, true, false, false, false, false, false] rfl rfl (by kernel_rfl) (by decide) (fun K hK => ?_)
          obtain ⟨e1, X1, hrun, e1c, e1l, hq⟩ := run_op (P := Try.prog) W6.drew .sub 22 x m (by simp)
          refine value_ (w1 := ?_) (v := ?_) (by kernel_rfl) rfl ?_ ?_
          rotate_left 2
          · go_simp
            constructor
            · rfl
            · rfl
          have hlt_ := blk_lt BD.out; have b_ := blk_below BD.out hq; have r_ := FD.out.below hlt_ hq; clear BD FD; have BD := Aside0.mk b_; have FD := Aside0.mk r_; clear b_ r_ hlt_
          refine hK _ _ ⟨blk_cell BD.out 1, blk_cell BD.out 2⟩ (fun _ => ?_)
          clear hK K hrun hq
          refine norm_ (a' := ?_) ?_ ?_
          rotate_left
          · show Act.put _ (some 86) _ = _
            simp only [Act.put, List.setIfInBounds_toArray, List.set_cons_zero, List.set_cons_succ, i64_w, i32_w]
            rfl
          refine one_ (i := 11) (N := some 87) #[true, true, true, true, true, true, true, true, true, true, true, true, false, false, false, false] rfl rfl (by kernel_rfl) (by decide) (fun K hK => ?_)
          obtain ⟨e2, X2, hrun, e2c, e2l, hq⟩ := run_op (P := Try.prog) X1 .mul 22 d e1 (by simp)
          refine value_ (w1 := ?_) (v := ?_) (by kernel_rfl) rfl ?_ ?_
          rotate_left 2
          · go_simp
            constructor
            · rfl
            · rfl
          have hlt_ := blk_lt BD.out; have b_ := blk_below BD.out hq; have r_ := FD.out.below hlt_ hq; clear BD FD; have BD := Aside0.mk b_; have FD := Aside0.mk r_; clear b_ r_ hlt_
          refine hK _ _ ⟨blk_cell BD.out 1, blk_cell BD.out 2⟩ (fun _ => ?_)
          clear hK K hrun hq
          refine norm_ (a' := ?_) ?_ ?_
          rotate_left
          · show Act.put _ (some 87) _ = _
            simp only [Act.put, List.setIfInBounds_toArray, List.set_cons_zero, List.set_cons_succ, i64_w, i32_w]
            rfl
          refine one_ (i := 12) (N := some 88) #[true, true, true, true, true, true, true, true, true, true, true, true, true, false, false, false] rfl rfl (by kernel_rfl) (by decide) (fun K hK => ?_)
          obtain ⟨z, X3, hrun, zc, zl, hq⟩ := run_op (P := Try.prog) X2 .add 22 b e2 (by simp)
          refine value_ (w1 := ?_) (v := ?_) (by kernel_rfl) rfl ?_ ?_
          rotate_left 2
          · go_simp
            constructor
            · rfl
            · rfl
          have hlt_ := blk_lt BD.out; have b_ := blk_below BD.out hq; have r_ := FD.out.below hlt_ hq; clear BD FD; have BD := Aside0.mk b_; have FD := Aside0.mk r_; clear b_ r_ hlt_
          refine hK _ _ ⟨blk_cell BD.out 1, blk_cell BD.out 2⟩ (fun _ => ?_)
          clear hK K hrun hq
          refine norm_ (a' := ?_) ?_ ?_
          rotate_left
          · show Act.put _ (some 88) _ = _
            simp only [Act.put, List.setIfInBounds_toArray, List.set_cons_zero, List.set_cons_succ, i64_w, i32_w]
            rfl
          refine pure_ (i := 13) (N := some 89) (v := ?_) (a' := ?_) #[true, true, true, true, true, true, true, true, true, true, true, true, true, true, false, false] rfl rfl (by kernel_rfl) (fun _ _ _ h => h) (Or.inl ⟨by kernel_rfl, ?_⟩) ?_ ?_
          rotate_left
          · intro w'
            go_simp
            with_reducible rfl
          rotate_left
          · simp only [Act.put, List.setIfInBounds_toArray, List.set_cons_zero, List.set_cons_succ, i64_w, i32_w]
            rfl
          refine pure_ (i := 14) (N := some 90) (v := ?_) (a' := ?_) #[true, true, true, true, true, true, true, true, true, true, true, true, true, true, true, false] rfl rfl (by kernel_rfl) (fun _ _ _ h => h) (Or.inl ⟨by kernel_rfl, ?_⟩) ?_ ?_
          rotate_left
          · intro w'
            go_simp
            with_reducible rfl
          rotate_left
          · simp only [Act.put, List.setIfInBounds_toArray, List.set_cons_zero, List.set_cons_succ, i64_w, i32_w]
            rfl
          refine last_ (i := 15) (N := none) #[true, true, true, true, true, true, true, true, true, true, true, true, true, true, true, true] rfl rfl (by kernel_rfl) (by decide) (fun K hK => ?_)
          have q2 : X3.cell? ⟨g, 2, none⟩ = some (.float .f64 b) := blk_cell BD.out 2
          have qf : X3.frozen? ⟨g, 2, none⟩ = false := blk_frozen BD.out 2
          refine skip_ (w1 := ?_) (by kernel_rfl) rfl ?_ ?_
          rotate_left
          · go_simp
            rfl
          refine hK _ _ ?_
          clear hK K q2 qf
          refine done_ (by kernel_rfl) ?_
          clear hHeld hc1 hc2
          have b_ := blk_put (cs' := #[.int .i64 ((s.n : Int) + 1), .float .f64 m, .float .f64 z, .float .f64 x, .float .f64 x]) BD.out 2 (.float .f64 z) rfl
          have r_ := FD.out.set 2 (.float .f64 z)
          have q_ := meter_eq (s := s) HA.out HBB.out dc qc mc e1c e2c zc
          (try simp only [Exit.inBlock, Exit.then])
          refine bodyPost_end (results_none rfl _ _ _) rfl ?_
          refine ⟨rfl, ⟨m, z, ?_, q_.1, q_.2, ml, zl⟩, r_⟩
          rw [HLO.out, HHI.out]
          exact b_
        · have Q1 := Aside0.mk p1; have Q2 := Aside0.mk p2
          obtain ⟨⟨c0, c1, c2, c3, c4⟩, fr_⟩ := five B.out; have f0 := fr_ 0; have f1 := fr_ 1; have f2 := fr_ 2; have f3 := fr_ 3; have f4 := fr_ 4; clear fr_
          go_upto_region 5 with (go_at_call 25; with_reducible refine (HO1.out _).mono ?_; rintro e w1 ⟨rfl, hb1⟩; have hlt_ := blk_lt B.out; have b_ := blk_below B.out hb1; have r_ := FR.out.below hlt_ hb1; clear B FR c0 c1 c2 c3 c4 f0 f1 f2 f3 f4; have B := Aside0.mk b_; have FR := Aside0.mk r_; clear b_ r_ hb1 hlt_; obtain ⟨⟨c0, c1, c2, c3, c4⟩, fr_⟩ := five B.out; have f0 := fr_ 0; have f1 := fr_ 1; have f2 := fr_ 2; have f3 := fr_ 3; have f4 := fr_ 4; clear fr_)
          have b0_ := blk_put (cs' := #[.int .i64 s.n, .float .f64 a, .float .f64 b, .float .f64 x, .float .f64 s.hi]) B.out 3 (.float .f64 x) rfl
          have r0_ := Fr.set FR.out 3 (.float .f64 x)
          clear c0 c1 c2 c3 c4 f0 f1 f2 f3 f4
          clear B FR
          generalize hW_ : (w1.setCell ⟨g, 3, none⟩ (.float .f64 x)) = U2 at *
          clear hW_
          have B := Aside0.mk b0_; have FR := Aside0.mk r0_
          clear b0_ r0_
          obtain ⟨⟨c0, c1, c2, c3, c4⟩, fr_⟩ := five B.out; have f0 := fr_ 0; have f1 := fr_ 1; have f2 := fr_ 2; have f3 := fr_ 3; have f4 := fr_ 4; clear fr_
          go_upto_region 7 with (go_at_call 25; with_reducible refine (HO2.out _).mono ?_; rintro e w1 ⟨rfl, hb1⟩; have hlt_ := blk_lt B.out; have b_ := blk_below B.out hb1; have r_ := FR.out.below hlt_ hb1; clear B FR c0 c1 c2 c3 c4 f0 f1 f2 f3 f4; have B := Aside0.mk b_; have FR := Aside0.mk r_; clear b_ r_ hb1 hlt_; obtain ⟨⟨c0, c1, c2, c3, c4⟩, fr_⟩ := five B.out; have f0 := fr_ 0; have f1 := fr_ 1; have f2 := fr_ 2; have f3 := fr_ 3; have f4 := fr_ 4; clear fr_)
          have HLO : Aside0 (loS s x = x) := ⟨by unfold loS; rw [if_pos (Or.inr Q1.out)]⟩
          have HHI : Aside0 (hiS s x = s.hi) := ⟨by unfold hiS; rw [if_neg (fun q => q.elim N0.out (fun z => by have := Q2.out; omega))]⟩
          have hwn : wrap64 ((s.n : Int) + 1) = (s.n : Int) + 1 := by have := HO.out.1; unfold wrap64; omega
          go_upto_region 8 with (fail)
          have b0_ := blk_put (cs' := #[.int .i64 ((s.n : Int) + 1), .float .f64 a, .float .f64 b, .float .f64 x, .float .f64 s.hi]) B.out 0 (.int .i64 ((s.n : Int) + 1)) rfl
          have r0_ := Fr.set FR.out 0 (.int .i64 ((s.n : Int) + 1))
          clear c0 c1 c2 c3 c4 f0 f1 f2 f3 f4
          clear B FR
          generalize hW_ : (w1.setCell ⟨g, 0, none⟩ (.int .i64 ((s.n : Int) + 1))) = V2 at *
          clear hW_
          have B := Aside0.mk b0_; have FR := Aside0.mk r0_
          clear b0_ r0_
          obtain ⟨⟨c0, c1, c2, c3, c4⟩, fr_⟩ := five B.out; have f0 := fr_ 0; have f1 := fr_ 1; have f2 := fr_ 2; have f3 := fr_ 3; have f4 := fr_ 4; clear fr_
          obtain ⟨d, W3, hrun, dc, dl, hq⟩ := run_op (P := Try.prog) V2 .sub 22 x a (by simp)
          go_upto_region 9 with (fail)
          have hlt_ := blk_lt B.out
          have b_ := blk_below B.out hq; have r_ := FR.out.below hlt_ hq
          clear c0 c1 c2 c3 c4 f0 f1 f2 f3 f4
          clear B FR hrun hq hlt_
          have B := Aside0.mk b_; have FR := Aside0.mk r_; clear b_ r_
          obtain ⟨⟨c0, c1, c2, c3, c4⟩, fr_⟩ := five B.out; have f0 := fr_ 0; have f1 := fr_ 1; have f2 := fr_ 2; have f3 := fr_ 3; have f4 := fr_ 4; clear fr_
          obtain ⟨q, W4, hrun, qc, ql, hq⟩ := run_op (P := Try.prog) W3 .quo 22 d (floatOfInt .f64 ((s.n : Int) + 1)) (by simp)
          go_upto_region 10 with (fail)
          have hlt_ := blk_lt B.out
          have b_ := blk_below B.out hq; have r_ := FR.out.below hlt_ hq
          clear c0 c1 c2 c3 c4 f0 f1 f2 f3 f4
          clear B FR hrun hq hlt_
          have B := Aside0.mk b_; have FR := Aside0.mk r_; clear b_ r_
          obtain ⟨⟨c0, c1, c2, c3, c4⟩, fr_⟩ := five B.out; have f0 := fr_ 0; have f1 := fr_ 1; have f2 := fr_ 2; have f3 := fr_ 3; have f4 := fr_ 4; clear fr_
          obtain ⟨m, W5, hrun, mc, ml, hq⟩ := run_op (P := Try.prog) W4 .add 22 a q (by simp)
          have hlt_ := blk_lt B.out
          have b_ := blk_below B.out hq; have r_ := FR.out.below hlt_ hq
          have k1_ : W5.cell? ⟨g, 1, none⟩ = some (.float .f64 a) := blk_cell b_ 1; have k2_ : W5.frozen? ⟨g, 1, none⟩ = false := blk_frozen b_ 1
          have B' := Aside0.mk b_; have FR' := Aside0.mk r_; clear b_ r_ hlt_ hq
          go_upto_region 11 with (fail)
          clear c0 c1 c2 c3 c4 f0 f1 f2 f3 f4
          clear B FR hrun k1_ k2_
          have B := B'; have FR := FR'; clear B' FR'
          obtain ⟨⟨c0, c1, c2, c3, c4⟩, fr_⟩ := five B.out; have f0 := fr_ 0; have f1 := fr_ 1; have f2 := fr_ 2; have f3 := fr_ 3; have f4 := fr_ 4; clear fr_
          have b0_ := blk_put (cs' := #[.int .i64 ((s.n : Int) + 1), .float .f64 m, .float .f64 b, .float .f64 x, .float .f64 s.hi]) B.out 1 (.float .f64 m) rfl
          have r0_ := Fr.set FR.out 1 (.float .f64 m)
          clear c0 c1 c2 c3 c4 f0 f1 f2 f3 f4
          clear B FR
          generalize hW_ : (W5.setCell ⟨g, 1, none⟩ (.float .f64 m)) = W6 at *
          clear hW_
          have B := Aside0.mk b0_; have FR := Aside0.mk r0_
          clear b0_ r0_
          have hc1 : W6.drew.cell? ⟨g, 1, none⟩ = some (.float .f64 m) := blk_cell B.out 1
          have hc2 : W6.drew.cell? ⟨g, 2, none⟩ = some (.float .f64 b) := blk_cell B.out 2
          have BD := Aside0.mk (blk_drew B.out); have FD := Aside0.mk FR.out.drew; clear B FR
          refine start_ (n := 16) (S := fun w' => w'.cell? ⟨g, 1, none⟩ = some (.float .f64 m) ∧ w'.cell? ⟨g, 2, none⟩ = some (.float .f64 b)) (ds := [15]) #[false, false, false, false, false, false, false, false, false, false, false, false, false, false, false, false] (by kernel_rfl) rfl rfl ⟨hc1, hc2⟩ (fun hHeld => ?_)
          refine pure_ (i := 0) (N := some 76) (v := ?_) (a' := ?_) #[true, false, false, false, false, false, false, false, false, false, false, false, false, false, false, false] rfl rfl (by kernel_rfl) (fun _ _ _ h => h) (Or.inl ⟨by kernel_rfl, ?_⟩) ?_ ?_
          rotate_left
          · intro w'
            go_simp
            with_reducible rfl
          rotate_left
          · simp only [Act.put, List.setIfInBounds_toArray, List.set_cons_zero, List.set_cons_succ, i64_w, i32_w]
            rfl
          refine pure_ (i := 1) (N := some 77) (v := ?_) (a' := ?_) #[true, true, false, false, false, false, false, false, false, false, false, false, false, false, false, false] rfl rfl (by kernel_rfl) (fun _ _ _ h => h) (Or.inl ⟨by kernel_rfl, ?_⟩) ?_ ?_
          rotate_left
          · intro w'
            go_simp
            with_reducible rfl
          rotate_left
          · simp only [Act.put, List.setIfInBounds_toArray, List.set_cons_zero, List.set_cons_succ, i64_w, i32_w]
            rfl
          refine pure_ (i := 2) (N := some 78) (v := ?_) (a' := ?_) #[true, true, true, false, false, false, false, false, false, false, false, false, false, false, false, false] rfl rfl (by kernel_rfl) (fun _ _ _ h => h) (Or.inl ⟨by kernel_rfl, ?_⟩) ?_ ?_
          rotate_left
          · intro w'
            go_simp
            with_reducible rfl
          rotate_left
          · simp only [Act.put, List.setIfInBounds_toArray, List.set_cons_zero, List.set_cons_succ, i64_w, i32_w]
            rfl
          refine pure_ (i := 4) (N := some 80) (v := ?_) (a' := ?_) #[true, true, true, false, true, false, false, false, false, false, false, false, false, false, false, false] rfl rfl (by kernel_rfl) (fun _ _ _ h => h) (Or.inl ⟨by kernel_rfl, ?_⟩) ?_ ?_
          rotate_left
          · intro w'
            go_simp
            with_reducible rfl
          rotate_left
          · simp only [Act.put, List.setIfInBounds_toArray, List.set_cons_zero, List.set_cons_succ, i64_w, i32_w]
            rfl
          refine pure_ (i := 5) (N := some 81) (v := ?_) (a' := ?_) #[true, true, true, false, true, true, false, false, false, false, false, false, false, false, false, false] rfl rfl (by kernel_rfl) (fun _ _ _ h => h) (Or.inl ⟨by kernel_rfl, ?_⟩) ?_ ?_
          rotate_left
          · intro w'
            go_simp
            with_reducible rfl
          rotate_left
          · simp only [Act.put, List.setIfInBounds_toArray, List.set_cons_zero, List.set_cons_succ, i64_w, i32_w]
            rfl
          refine pure_ (i := 6) (N := some 82) (v := ?_) (a' := ?_) #[true, true, true, false, true, true, true, false, false, false, false, false, false, false, false, false] rfl rfl (by kernel_rfl) (fun _ _ _ h => h) (Or.inl ⟨by kernel_rfl, ?_⟩) ?_ ?_
          rotate_left
          · intro w'
            go_simp
            with_reducible rfl
          rotate_left
          · simp only [Act.put, List.setIfInBounds_toArray, List.set_cons_zero, List.set_cons_succ, i64_w, i32_w]
            rfl
          refine pure_ (i := 7) (N := some 83) (v := ?_) (a' := ?_) #[true, true, true, false, true, true, true, true, false, false, false, false, false, false, false, false] rfl rfl (by kernel_rfl) (fun _ _ _ h => h) (Or.inl ⟨by kernel_rfl, ?_⟩) ?_ ?_
          rotate_left
          · intro w'
            go_simp
            with_reducible rfl
          rotate_left
          · simp only [Act.put, List.setIfInBounds_toArray, List.set_cons_zero, List.set_cons_succ, i64_w, i32_w]
            rfl
          refine pure_ (i := 8) (N := some 84) (v := ?_) (a' := ?_) #[true, true, true, false, true, true, true, true, true, false, false, false, false, false, false, false] rfl rfl (by kernel_rfl) (fun _ _ _ h => h) (Or.inl ⟨by kernel_rfl, ?_⟩) ?_ ?_
          rotate_left
          · intro w'
            go_simp
            with_reducible rfl
          rotate_left
          · simp only [Act.put, List.setIfInBounds_toArray, List.set_cons_zero, List.set_cons_succ, i64_w, i32_w]
            rfl
          refine take_ (i := 3) (N := some 79) (v := ?_) (a' := ?_) #[true, true, true, true, true, true, true, true, true, false, false, false, false, false, false, false] rfl rfl (by kernel_rfl) (fun _ _ _ h => h) (Or.inl ⟨by kernel_rfl, ?_⟩) hHeld ?_ ?_
          rotate_left
          · rintro w' ⟨s0_, s1_⟩
            go_simp
            with_reducible rfl
          rotate_left
          · simp only [Act.put, List.setIfInBounds_toArray, List.set_cons_zero, List.set_cons_succ, i64_w, i32_w]
            rfl
          refine take_ (i := 9) (N := some 85) (v := ?_) (a' := ?_) #[true, true, true, true, true, true, true, true, true, true, false, false, false, false, false, false] rfl rfl (by kernel_rfl) (fun _ _ _ h => h) (Or.inl ⟨by kernel_rfl, ?_⟩) hHeld ?_ ?_
          rotate_left
          · rintro w' ⟨s0_, s1_⟩
            go_simp
            with_reducible rfl
          rotate_left
          · simp only [Act.put, List.setIfInBounds_toArray, List.set_cons_zero, List.set_cons_succ, i64_w, i32_w]
            rfl
          refine one_ (i := 10) (N := some 86) #[true, true, true, true, true, true, true, true, true, true, true, false, false, false, false, false] rfl rfl (by kernel_rfl) (by decide) (fun K hK => ?_)
          obtain ⟨e1, X1, hrun, e1c, e1l, hq⟩ := run_op (P := Try.prog) W6.drew .sub 22 x m (by simp)
          refine value_ (w1 := ?_) (v := ?_) (by kernel_rfl) rfl ?_ ?_
          rotate_left 2
          · go_simp
            constructor
            · rfl
            · rfl
          have hlt_ := blk_lt BD.out; have b_ := blk_below BD.out hq; have r_ := FD.out.below hlt_ hq; clear BD FD; have BD := Aside0.mk b_; have FD := Aside0.mk r_; clear b_ r_ hlt_
          refine hK _ _ ⟨blk_cell BD.out 1, blk_cell BD.out 2⟩ (fun _ => ?_)
          clear hK K hrun hq
          refine norm_ (a' := ?_) ?_ ?_
          rotate_left
          · show Act.put _ (some 86) _ = _
            simp only [Act.put, List.setIfInBounds_toArray, List.set_cons_zero, List.set_cons_succ, i64_w, i32_w]
            rfl
          refine one_ (i := 11) (N := some 87) #[true, true, true, true, true, true, true, true, true, true, true, true, false, false, false, false] rfl rfl (by kernel_rfl) (by decide) (fun K hK => ?_)
          obtain ⟨e2, X2, hrun, e2c, e2l, hq⟩ := run_op (P := Try.prog) X1 .mul 22 d e1 (by simp)
          refine value_ (w1 := ?_) (v := ?_) (by kernel_rfl) rfl ?_ ?_
          rotate_left 2
          · go_simp
            constructor
            · rfl
            · rfl
          have hlt_ := blk_lt BD.out; have b_ := blk_below BD.out hq; have r_ := FD.out.below hlt_ hq; clear BD FD; have BD := Aside0.mk b_; have FD := Aside0.mk r_; clear b_ r_ hlt_
          refine hK _ _ ⟨blk_cell BD.out 1, blk_cell BD.out 2⟩ (fun _ => ?_)
          clear hK K hrun hq
          refine norm_ (a' := ?_) ?_ ?_
          rotate_left
          · show Act.put _ (some 87) _ = _
            simp only [Act.put, List.setIfInBounds_toArray, List.set_cons_zero, List.set_cons_succ, i64_w, i32_w]
            rfl
          refine one_ (i := 12) (N := some 88) #[true, true, true, true, true, true, true, true, true, true, true, true, true, false, false, false] rfl rfl (by kernel_rfl) (by decide) (fun K hK => ?_)
          obtain ⟨z, X3, hrun, zc, zl, hq⟩ := run_op (P := Try.prog) X2 .add 22 b e2 (by simp)
          refine value_ (w1 := ?_) (v := ?_) (by kernel_rfl) rfl ?_ ?_
          rotate_left 2
          · go_simp
            constructor
            · rfl
            · rfl
          have hlt_ := blk_lt BD.out; have b_ := blk_below BD.out hq; have r_ := FD.out.below hlt_ hq; clear BD FD; have BD := Aside0.mk b_; have FD := Aside0.mk r_; clear b_ r_ hlt_
          refine hK _ _ ⟨blk_cell BD.out 1, blk_cell BD.out 2⟩ (fun _ => ?_)
          clear hK K hrun hq
          refine norm_ (a' := ?_) ?_ ?_
          rotate_left
          · show Act.put _ (some 88) _ = _
            simp only [Act.put, List.setIfInBounds_toArray, List.set_cons_zero, List.set_cons_succ, i64_w, i32_w]
            rfl
          refine pure_ (i := 13) (N := some 89) (v := ?_) (a' := ?_) #[true, true, true, true, true, true, true, true, true, true, true, true, true, true, false, false] rfl rfl (by kernel_rfl) (fun _ _ _ h => h) (Or.inl ⟨by kernel_rfl, ?_⟩) ?_ ?_
          rotate_left
          · intro w'
            go_simp
            with_reducible rfl
          rotate_left
          · simp only [Act.put, List.setIfInBounds_toArray, List.set_cons_zero, List.set_cons_succ, i64_w, i32_w]
            rfl
          refine pure_ (i := 14) (N := some 90) (v := ?_) (a' := ?_) #[true, true, true, true, true, true, true, true, true, true, true, true, true, true, true, false] rfl rfl (by kernel_rfl) (fun _ _ _ h => h) (Or.inl ⟨by kernel_rfl, ?_⟩) ?_ ?_
          rotate_left
          · intro w'
            go_simp
            with_reducible rfl
          rotate_left
          · simp only [Act.put, List.setIfInBounds_toArray, List.set_cons_zero, List.set_cons_succ, i64_w, i32_w]
            rfl
          refine last_ (i := 15) (N := none) #[true, true, true, true, true, true, true, true, true, true, true, true, true, true, true, true] rfl rfl (by kernel_rfl) (by decide) (fun K hK => ?_)
          have q2 : X3.cell? ⟨g, 2, none⟩ = some (.float .f64 b) := blk_cell BD.out 2
          have qf : X3.frozen? ⟨g, 2, none⟩ = false := blk_frozen BD.out 2
          refine skip_ (w1 := ?_) (by kernel_rfl) rfl ?_ ?_
          rotate_left
          · go_simp
            rfl
          refine hK _ _ ?_
          clear hK K q2 qf
          refine done_ (by kernel_rfl) ?_
          clear hHeld hc1 hc2
          have b_ := blk_put (cs' := #[.int .i64 ((s.n : Int) + 1), .float .f64 m, .float .f64 z, .float .f64 x, .float .f64 s.hi]) BD.out 2 (.float .f64 z) rfl
          have r_ := FD.out.set 2 (.float .f64 z)
          have q_ := meter_eq (s := s) HA.out HBB.out dc qc mc e1c e2c zc
          (try simp only [Exit.inBlock, Exit.then])
          refine bodyPost_end (results_none rfl _ _ _) rfl ?_
          refine ⟨rfl, ⟨m, z, ?_, q_.1, q_.2, ml, zl⟩, r_⟩
          rw [HLO.out, HHI.out]
          exact b_
      · by_cases p2 : 0 < ordF x s.hi
        · have Q1 := Aside0.mk p1; have Q2 := Aside0.mk p2
          obtain ⟨⟨c0, c1, c2, c3, c4⟩, fr_⟩ := five B.out; have f0 := fr_ 0; have f1 := fr_ 1; have f2 := fr_ 2; have f3 := fr_ 3; have f4 := fr_ 4; clear fr_
          go_upto_region 5 with (go_at_call 25; with_reducible refine (HO1.out _).mono ?_; rintro e w1 ⟨rfl, hb1⟩; have hlt_ := blk_lt B.out; have b_ := blk_below B.out hb1; have r_ := FR.out.below hlt_ hb1; clear B FR c0 c1 c2 c3 c4 f0 f1 f2 f3 f4; have B := Aside0.mk b_; have FR := Aside0.mk r_; clear b_ r_ hb1 hlt_; obtain ⟨⟨c0, c1, c2, c3, c4⟩, fr_⟩ := five B.out; have f0 := fr_ 0; have f1 := fr_ 1; have f2 := fr_ 2; have f3 := fr_ 3; have f4 := fr_ 4; clear fr_)
          go_upto_region 7 with (go_at_call 25; with_reducible refine (HO2.out _).mono ?_; rintro e w1 ⟨rfl, hb1⟩; have hlt_ := blk_lt B.out; have b_ := blk_below B.out hb1; have r_ := FR.out.below hlt_ hb1; clear B FR c0 c1 c2 c3 c4 f0 f1 f2 f3 f4; have B := Aside0.mk b_; have FR := Aside0.mk r_; clear b_ r_ hb1 hlt_; obtain ⟨⟨c0, c1, c2, c3, c4⟩, fr_⟩ := five B.out; have f0 := fr_ 0; have f1 := fr_ 1; have f2 := fr_ 2; have f3 := fr_ 3; have f4 := fr_ 4; clear fr_)
          have b0_ := blk_put (cs' := #[.int .i64 s.n, .float .f64 a, .float .f64 b, .float .f64 s.lo, .float .f64 x]) B.out 4 (.float .f64 x) rfl
          have r0_ := Fr.set FR.out 4 (.float .f64 x)
          clear c0 c1 c2 c3 c4 f0 f1 f2 f3 f4
          clear B FR
          generalize hW_ : (w1.setCell ⟨g, 4, none⟩ (.float .f64 x)) = U3 at *
          clear hW_
          have B := Aside0.mk b0_; have FR := Aside0.mk r0_
          clear b0_ r0_
          obtain ⟨⟨c0, c1, c2, c3, c4⟩, fr_⟩ := five B.out; have f0 := fr_ 0; have f1 := fr_ 1; have f2 := fr_ 2; have f3 := fr_ 3; have f4 := fr_ 4; clear fr_
          have HLO : Aside0 (loS s x = s.lo) := ⟨by unfold loS; rw [if_neg (fun q => q.elim N0.out (fun z => by have := Q1.out; omega))]⟩
          have HHI : Aside0 (hiS s x = x) := ⟨by unfold hiS; rw [if_pos (Or.inr Q2.out)]⟩
          have hwn : wrap64 ((s.n : Int) + 1) = (s.n : Int) + 1 := by have := HO.out.1; unfold wrap64; omega
          go_upto_region 8 with (fail)
          have b0_ := blk_put (cs' := #[.int .i64 ((s.n : Int) + 1), .float .f64 a, .float .f64 b, .float .f64 s.lo, .float .f64 x]) B.out 0 (.int .i64 ((s.n : Int) + 1)) rfl
          have r0_ := Fr.set FR.out 0 (.int .i64 ((s.n : Int) + 1))
          clear c0 c1 c2 c3 c4 f0 f1 f2 f3 f4
          clear B FR
          generalize hW_ : (U3.setCell ⟨g, 0, none⟩ (.int .i64 ((s.n : Int) + 1))) = V2 at *
          clear hW_
          have B := Aside0.mk b0_; have FR := Aside0.mk r0_
          clear b0_ r0_
          obtain ⟨⟨c0, c1, c2, c3, c4⟩, fr_⟩ := five B.out; have f0 := fr_ 0; have f1 := fr_ 1; have f2 := fr_ 2; have f3 := fr_ 3; have f4 := fr_ 4; clear fr_
          obtain ⟨d, W3, hrun, dc, dl, hq⟩ := run_op (P := Try.prog) V2 .sub 22 x a (by simp)
          go_upto_region 9 with (fail)
          have hlt_ := blk_lt B.out
          have b_ := blk_below B.out hq; have r_ := FR.out.below hlt_ hq
          clear c0 c1 c2 c3 c4 f0 f1 f2 f3 f4
          clear B FR hrun hq hlt_
          have B := Aside0.mk b_; have FR := Aside0.mk r_; clear b_ r_
          obtain ⟨⟨c0, c1, c2, c3, c4⟩, fr_⟩ := five B.out; have f0 := fr_ 0; have f1 := fr_ 1; have f2 := fr_ 2; have f3 := fr_ 3; have f4 := fr_ 4; clear fr_
          obtain ⟨q, W4, hrun, qc, ql, hq⟩ := run_op (P := Try.prog) W3 .quo 22 d (floatOfInt .f64 ((s.n : Int) + 1)) (by simp)
          go_upto_region 10 with (fail)
          have hlt_ := blk_lt B.out
          have b_ := blk_below B.out hq; have r_ := FR.out.below hlt_ hq
          clear c0 c1 c2 c3 c4 f0 f1 f2 f3 f4
          clear B FR hrun hq hlt_
          have B := Aside0.mk b_; have FR := Aside0.mk r_; clear b_ r_
          obtain ⟨⟨c0, c1, c2, c3, c4⟩, fr_⟩ := five B.out; have f0 := fr_ 0; have f1 := fr_ 1; have f2 := fr_ 2; have f3 := fr_ 3; have f4 := fr_ 4; clear fr_
          obtain ⟨m, W5, hrun, mc, ml, hq⟩ := run_op (P := Try.prog) W4 .add 22 a q (by simp)
          have hlt_ := blk_lt B.out
          have b_ := blk_below B.out hq; have r_ := FR.out.below hlt_ hq
          have k1_ : W5.cell? ⟨g, 1, none⟩ = some (.float .f64 a) := blk_cell b_ 1; have k2_ : W5.frozen? ⟨g, 1, none⟩ = false := blk_frozen b_ 1
          have B' := Aside0.mk b_; have FR' := Aside0.mk r_; clear b_ r_ hlt_ hq
          go_upto_region 11 with (fail)
          clear c0 c1 c2 c3 c4 f0 f1 f2 f3 f4
          clear B FR hrun k1_ k2_
          have B := B'; have FR := FR'; clear B' FR'
          obtain ⟨⟨c0, c1, c2, c3, c4⟩, fr_⟩ := five B.out; have f0 := fr_ 0; have f1 := fr_ 1; have f2 := fr_ 2; have f3 := fr_ 3; have f4 := fr_ 4; clear fr_
          have b0_ := blk_put (cs' := #[.int .i64 ((s.n : Int) + 1), .float .f64 m, .float .f64 b, .float .f64 s.lo, .float .f64 x]) B.out 1 (.float .f64 m) rfl
          have r0_ := Fr.set FR.out 1 (.float .f64 m)
          clear c0 c1 c2 c3 c4 f0 f1 f2 f3 f4
          clear B FR
          generalize hW_ : (W5.setCell ⟨g, 1, none⟩ (.float .f64 m)) = W6 at *
          clear hW_
          have B := Aside0.mk b0_; have FR := Aside0.mk r0_
          clear b0_ r0_
          have hc1 : W6.drew.cell? ⟨g, 1, none⟩ = some (.float .f64 m) := blk_cell B.out 1
          have hc2 : W6.drew.cell? ⟨g, 2, none⟩ = some (.float .f64 b) := blk_cell B.out 2
          have BD := Aside0.mk (blk_drew B.out); have FD := Aside0.mk FR.out.drew; clear B FR
          refine start_ (n := 16) (S := fun w' => w'.cell? ⟨g, 1, none⟩ = some (.float .f64 m) ∧ w'.cell? ⟨g, 2, none⟩ = some (.float .f64 b)) (ds := [15]) #[false, false, false, false, false, false, false, false, false, false, false, false, false, false, false, false] (by kernel_rfl) rfl rfl ⟨hc1, hc2⟩ (fun hHeld => ?_)
          refine pure_ (i := 0) (N := some 76) (v := ?_) (a' := ?_) #[true, false, false, false, false, false, false, false, false, false, false, false, false, false, false, false] rfl rfl (by kernel_rfl) (fun _ _ _ h => h) (Or.inl ⟨by kernel_rfl, ?_⟩) ?_ ?_
          rotate_left
          · intro w'
            go_simp
            with_reducible rfl
          rotate_left
          · simp only [Act.put, List.setIfInBounds_toArray, List.set_cons_zero, List.set_cons_succ, i64_w, i32_w]
            rfl
          refine pure_ (i := 1) (N := some 77) (v := ?_) (a' := ?_) #[true, true, false, false, false, false, false, false, false, false, false, false, false, false, false, false] rfl rfl (by kernel_rfl) (fun _ _ _ h => h) (Or.inl ⟨by kernel_rfl, ?_⟩) ?_ ?_
          rotate_left
          · intro w'
            go_simp
            with_reducible rfl
          rotate_left
          · simp only [Act.put, List.setIfInBounds_toArray, List.set_cons_zero, List.set_cons_succ, i64_w, i32_w]
            rfl
          refine pure_ (i := 2) (N := some 78) (v := ?_) (a' := ?_) #[true, true, true, false, false, false, false, false, false, false, false, false, false, false, false, false] rfl rfl (by kernel_rfl) (fun _ _ _ h => h) (Or.inl ⟨by kernel_rfl, ?_⟩) ?_ ?_
          rotate_left
          · intro w'
            go_simp
            with_reducible rfl
          rotate_left
          · simp only [Act.put, List.setIfInBounds_toArray, List.set_cons_zero, List.set_cons_succ, i64_w, i32_w]
            rfl
          refine pure_ (i := 4) (N := some 80) (v := ?_) (a' := ?_) #[true, true, true, false, true, false, false, false, false, false, false, false, false, false, false, false] rfl rfl (by kernel_rfl) (fun _ _ _ h => h) (Or.inl ⟨by kernel_rfl, ?_⟩) ?_ ?_
          rotate_left
          · intro w'
            go_simp
            with_reducible rfl
          rotate_left
          · simp only [Act.put, List.setIfInBounds_toArray, List.set_cons_zero, List.set_cons_succ, i64_w, i32_w]
            rfl
          refine pure_ (i := 5) (N := some 81) (v := ?_) (a' := ?_) #[true, true, true, false, true, true, false, false, false, false, false, false, false, false, false, false] rfl rfl (by kernel_rfl) (fun _ _ _ h => h) (Or.inl ⟨by kernel_rfl, ?_⟩) ?_ ?_
          rotate_left
          · intro w'
            go_simp
            with_reducible rfl
          rotate_left
          · simp only [Act.put, List.setIfInBounds_toArray, List.set_cons_zero, List.set_cons_succ, i64_w, i32_w]
            rfl
          refine pure_ (i := 6) (N := some 82) (v := ?_) (a' := ?_) #[true, true, true, false, true, true, true, false, false, false, false, false, false, false, false, false] rfl rfl (by kernel_rfl) (fun _ _ _ h => h) (Or.inl ⟨by kernel_rfl, ?_⟩) ?_ ?_
          rotate_left
          · intro w'
            go_simp
            with_reducible rfl
          rotate_left
          · simp only [Act.put, List.setIfInBounds_toArray, List.set_cons_zero, List.set_cons_succ, i64_w, i32_w]
            rfl
          refine pure_ (i := 7) (N := some 83) (v := ?_) (a' := ?_) #[true, true, true, false, true, true, true, true, false, false, false, false, false, false, false, false] rfl rfl (by kernel_rfl) (fun _ _ _ h => h) (Or.inl ⟨by kernel_rfl, ?_⟩) ?_ ?_
          rotate_left
          · intro w'
            go_simp
            with_reducible rfl
          rotate_left
          · simp only [Act.put, List.setIfInBounds_toArray, List.set_cons_zero, List.set_cons_succ, i64_w, i32_w]
            rfl
          refine pure_ (i := 8) (N := some 84) (v := ?_) (a' := ?_) #[true, true, true, false, true, true, true, true, true, false, false, false, false, false, false, false] rfl rfl (by kernel_rfl) (fun _ _ _ h => h) (Or.inl ⟨by kernel_rfl, ?_⟩) ?_ ?_
          rotate_left
          · intro w'
            go_simp
            with_reducible rfl
          rotate_left
          · simp only [Act.put, List.setIfInBounds_toArray, List.set_cons_zero, List.set_cons_succ, i64_w, i32_w]
            rfl
          refine take_ (i := 3) (N := some 79) (v := ?_) (a' := ?_) #[true, true, true, true, true, true, true, true, true, false, false, false, false, false, false, false] rfl rfl (by kernel_rfl) (fun _ _ _ h => h) (Or.inl ⟨by kernel_rfl, ?_⟩) hHeld ?_ ?_
          rotate_left
          · rintro w' ⟨s0_, s1_⟩
            go_simp
            with_reducible rfl
          rotate_left
          · simp only [Act.put, List.setIfInBounds_toArray, List.set_cons_zero, List.set_cons_succ, i64_w, i32_w]
            rfl
          refine take_ (i := 9) (N := some 85) (v := ?_) (a' := ?_) #[true, true, true, true, true, true, true, true, true, true, false, false, false, false, false, false] rfl rfl (by kernel_rfl) (fun _ _ _ h => h) (Or.inl ⟨by kernel_rfl, ?_⟩) hHeld ?_ ?_
          rotate_left
          · rintro w' ⟨s0_, s1_⟩
            go_simp
            with_reducible rfl
          rotate_left
          · simp only [Act.put, List.setIfInBounds_toArray, List.set_cons_zero, List.set_cons_succ, i64_w, i32_w]
            rfl
          refine one_ (i := 10) (N := some 86) #[true, true, true, true, true, true, true, true, true, true, true, false, false, false, false, false] rfl rfl (by kernel_rfl) (by decide) (fun K hK => ?_)
          obtain ⟨e1, X1, hrun, e1c, e1l, hq⟩ := run_op (P := Try.prog) W6.drew .sub 22 x m (by simp)
          refine value_ (w1 := ?_) (v := ?_) (by kernel_rfl) rfl ?_ ?_
          rotate_left 2
          · go_simp
            constructor
            · rfl
            · rfl
          have hlt_ := blk_lt BD.out; have b_ := blk_below BD.out hq; have r_ := FD.out.below hlt_ hq; clear BD FD; have BD := Aside0.mk b_; have FD := Aside0.mk r_; clear b_ r_ hlt_
          refine hK _ _ ⟨blk_cell BD.out 1, blk_cell BD.out 2⟩ (fun _ => ?_)
          clear hK K hrun hq
          refine norm_ (a' := ?_) ?_ ?_
          rotate_left
          · show Act.put _ (some 86) _ = _
            simp only [Act.put, List.setIfInBounds_toArray, List.set_cons_zero, List.set_cons_succ, i64_w, i32_w]
            rfl
          refine one_ (i := 11) (N := some 87) #[true, true, true, true, true, true, true, true, true, true, true, true, false, false, false, false] rfl rfl (by kernel_rfl) (by decide) (fun K hK => ?_)
          obtain ⟨e2, X2, hrun, e2c, e2l, hq⟩ := run_op (P := Try.prog) X1 .mul 22 d e1 (by simp)
          refine value_ (w1 := ?_) (v := ?_) (by kernel_rfl) rfl ?_ ?_
          rotate_left 2
          · go_simp
            constructor
            · rfl
            · rfl
          have hlt_ := blk_lt BD.out; have b_ := blk_below BD.out hq; have r_ := FD.out.below hlt_ hq; clear BD FD; have BD := Aside0.mk b_; have FD := Aside0.mk r_; clear b_ r_ hlt_
          refine hK _ _ ⟨blk_cell BD.out 1, blk_cell BD.out 2⟩ (fun _ => ?_)
          clear hK K hrun hq
          refine norm_ (a' := ?_) ?_ ?_
          rotate_left
          · show Act.put _ (some 87) _ = _
            simp only [Act.put, List.setIfInBounds_toArray, List.set_cons_zero, List.set_cons_succ, i64_w, i32_w]
            rfl
          refine one_ (i := 12) (N := some 88) #[true, true, true, true, true, true, true, true, true, true, true, true, true, false, false, false] rfl rfl (by kernel_rfl) (by decide) (fun K hK => ?_)
          obtain ⟨z, X3, hrun, zc, zl, hq⟩ := run_op (P := Try.prog) X2 .add 22 b e2 (by simp)
          refine value_ (w1 := ?_) (v := ?_) (by kernel_rfl) rfl ?_ ?_
          rotate_left 2
          · go_simp
            constructor
            · rfl
            · rfl
          have hlt_ := blk_lt BD.out; have b_ := blk_below BD.out hq; have r_ := FD.out.below hlt_ hq; clear BD FD; have BD := Aside0.mk b_; have FD := Aside0.mk r_; clear b_ r_ hlt_
          refine hK _ _ ⟨blk_cell BD.out 1, blk_cell BD.out 2⟩ (fun _ => ?_)
          clear hK K hrun hq
          refine norm_ (a' := ?_) ?_ ?_
          rotate_left
          · show Act.put _ (some 88) _ = _
            simp only [Act.put, List.setIfInBounds_toArray, List.set_cons_zero, List.set_cons_succ, i64_w, i32_w]
            rfl
          refine pure_ (i := 13) (N := some 89) (v := ?_) (a' := ?_) #[true, true, true, true, true, true, true, true, true, true, true, true, true, true, false, false] rfl rfl (by kernel_rfl) (fun _ _ _ h => h) (Or.inl ⟨by kernel_rfl, ?_⟩) ?_ ?_
          rotate_left
          · intro w'
            go_simp
            with_reducible rfl
          rotate_left
          · simp only [Act.put, List.setIfInBounds_toArray, List.set_cons_zero, List.set_cons_succ, i64_w, i32_w]
            rfl
          refine pure_ (i := 14) (N := some 90) (v := ?_) (a' := ?_) #[true, true, true, true, true, true, true, true, true, true, true, true, true, true, true, false] rfl rfl (by kernel_rfl) (fun _ _ _ h => h) (Or.inl ⟨by kernel_rfl, ?_⟩) ?_ ?_
          rotate_left
          · intro w'
            go_simp
            with_reducible rfl
          rotate_left
          · simp only [Act.put, List.setIfInBounds_toArray, List.set_cons_zero, List.set_cons_succ, i64_w, i32_w]
            rfl
          refine last_ (i := 15) (N := none) #[true, true, true, true, true, true, true, true, true, true, true, true, true, true, true, true] rfl rfl (by kernel_rfl) (by decide) (fun K hK => ?_)
          have q2 : X3.cell? ⟨g, 2, none⟩ = some (.float .f64 b) := blk_cell BD.out 2
          have qf : X3.frozen? ⟨g, 2, none⟩ = false := blk_frozen BD.out 2
          refine skip_ (w1 := ?_) (by kernel_rfl) rfl ?_ ?_
          rotate_left
          · go_simp
            rfl
          refine hK _ _ ?_
          clear hK K q2 qf
          refine done_ (by kernel_rfl) ?_
          clear hHeld hc1 hc2
          have b_ := blk_put (cs' := #[.int .i64 ((s.n : Int) + 1), .float .f64 m, .float .f64 z, .float .f64 s.lo, .float .f64 x]) BD.out 2 (.float .f64 z) rfl
          have r_ := FD.out.set 2 (.float .f64 z)
          have q_ := meter_eq (s := s) HA.out HBB.out dc qc mc e1c e2c zc
          (try simp only [Exit.inBlock, Exit.then])
          refine bodyPost_end (results_none rfl _ _ _) rfl ?_
          refine ⟨rfl, ⟨m, z, ?_, q_.1, q_.2, ml, zl⟩, r_⟩
          rw [HLO.out, HHI.out]
          exact b_
        · have Q1 := Aside0.mk p1; have Q2 := Aside0.mk p2
          obtain ⟨⟨c0, c1, c2, c3, c4⟩, fr_⟩ := five B.out; have f0 := fr_ 0; have f1 := fr_ 1; have f2 := fr_ 2; have f3 := fr_ 3; have f4 := fr_ 4; clear fr_
          go_upto_region 5 with (go_at_call 25; with_reducible refine (HO1.out _).mono ?_; rintro e w1 ⟨rfl, hb1⟩; have hlt_ := blk_lt B.out; have b_ := blk_below B.out hb1; have r_ := FR.out.below hlt_ hb1; clear B FR c0 c1 c2 c3 c4 f0 f1 f2 f3 f4; have B := Aside0.mk b_; have FR := Aside0.mk r_; clear b_ r_ hb1 hlt_; obtain ⟨⟨c0, c1, c2, c3, c4⟩, fr_⟩ := five B.out; have f0 := fr_ 0; have f1 := fr_ 1; have f2 := fr_ 2; have f3 := fr_ 3; have f4 := fr_ 4; clear fr_)
          go_upto_region 7 with (go_at_call 25; with_reducible refine (HO2.out _).mono ?_; rintro e w1 ⟨rfl, hb1⟩; have hlt_ := blk_lt B.out; have b_ := blk_below B.out hb1; have r_ := FR.out.below hlt_ hb1; clear B FR c0 c1 c2 c3 c4 f0 f1 f2 f3 f4; have B := Aside0.mk b_; have FR := Aside0.mk r_; clear b_ r_ hb1 hlt_; obtain ⟨⟨c0, c1, c2, c3, c4⟩, fr_⟩ := five B.out; have f0 := fr_ 0; have f1 := fr_ 1; have f2 := fr_ 2; have f3 := fr_ 3; have f4 := fr_ 4; clear fr_)
          have HLO : Aside0 (loS s x = s.lo) := ⟨by unfold loS; rw [if_neg (fun q => q.elim N0.out (fun z => by have := Q1.out; omega))]⟩
          have HHI : Aside0 (hiS s x = s.hi) := ⟨by unfold hiS; rw [if_neg (fun q => q.elim N0.out (fun z => by have := Q2.out; omega))]⟩
          have hwn : wrap64 ((s.n : Int) + 1) = (s.n : Int) + 1 := by have := HO.out.1; unfold wrap64; omega
          go_upto_region 8 with (fail)
          have b0_ := blk_put (cs' := #[.int .i64 ((s.n : Int) + 1), .float .f64 a, .float .f64 b, .float .f64 s.lo, .float .f64 s.hi]) B.out 0 (.int .i64 ((s.n : Int) + 1)) rfl
          have r0_ := Fr.set FR.out 0 (.int .i64 ((s.n : Int) + 1))
          clear c0 c1 c2 c3 c4 f0 f1 f2 f3 f4
          clear B FR
          generalize hW_ : (w1.setCell ⟨g, 0, none⟩ (.int .i64 ((s.n : Int) + 1))) = V2 at *
          clear hW_
          have B := Aside0.mk b0_; have FR := Aside0.mk r0_
          clear b0_ r0_
          obtain ⟨⟨c0, c1, c2, c3, c4⟩, fr_⟩ := five B.out; have f0 := fr_ 0; have f1 := fr_ 1; have f2 := fr_ 2; have f3 := fr_ 3; have f4 := fr_ 4; clear fr_
          obtain ⟨d, W3, hrun, dc, dl, hq⟩ := run_op (P := Try.prog) V2 .sub 22 x a (by simp)
          go_upto_region 9 with (fail)
          have hlt_ := blk_lt B.out
          have b_ := blk_below B.out hq; have r_ := FR.out.below hlt_ hq
          clear c0 c1 c2 c3 c4 f0 f1 f2 f3 f4
          clear B FR hrun hq hlt_
          have B := Aside0.mk b_; have FR := Aside0.mk r_; clear b_ r_
          obtain ⟨⟨c0, c1, c2, c3, c4⟩, fr_⟩ := five B.out; have f0 := fr_ 0; have f1 := fr_ 1; have f2 := fr_ 2; have f3 := fr_ 3; have f4 := fr_ 4; clear fr_
          obtain ⟨q, W4, hrun, qc, ql, hq⟩ := run_op (P := Try.prog) W3 .quo 22 d (floatOfInt .f64 ((s.n : Int) + 1)) (by simp)
          go_upto_region 10 with (fail)
          have hlt_ := blk_lt B.out
          have b_ := blk_below B.out hq; have r_ := FR.out.below hlt_ hq
          clear c0 c1 c2 c3 c4 f0 f1 f2 f3 f4
          clear B FR hrun hq hlt_
          have B := Aside0.mk b_; have FR := Aside0.mk r_; clear b_ r_
          obtain ⟨⟨c0, c1, c2, c3, c4⟩, fr_⟩ := five B.out; have f0 := fr_ 0; have f1 := fr_ 1; have f2 := fr_ 2; have f3 := fr_ 3; have f4 := fr_ 4; clear fr_
          obtain ⟨m, W5, hrun, mc, ml, hq⟩ := run_op (P := Try.prog) W4 .add 22 a q (by simp)
          have hlt_ := blk_lt B.out
          have b_ := blk_below B.out hq; have r_ := FR.out.below hlt_ hq
          have k1_ : W5.cell? ⟨g, 1, none⟩ = some (.float .f64 a) := blk_cell b_ 1; have k2_ : W5.frozen? ⟨g, 1, none⟩ = false := blk_frozen b_ 1
          have B' := Aside0.mk b_; have FR' := Aside0.mk r_; clear b_ r_ hlt_ hq
          go_upto_region 11 with (fail)
          clear c0 c1 c2 c3 c4 f0 f1 f2 f3 f4
          clear B FR hrun k1_ k2_
          have B := B'; have FR := FR'; clear B' FR'
          obtain ⟨⟨c0, c1, c2, c3, c4⟩, fr_⟩ := five B.out; have f0 := fr_ 0; have f1 := fr_ 1; have f2 := fr_ 2; have f3 := fr_ 3; have f4 := fr_ 4; clear fr_
          have b0_ := blk_put (cs' := #[.int .i64 ((s.n : Int) + 1), .float .f64 m, .float .f64 b, .float .f64 s.lo, .float .f64 s.hi]) B.out 1 (.float .f64 m) rfl
          have r0_ := Fr.set FR.out 1 (.float .f64 m)
          clear c0 c1 c2 c3 c4 f0 f1 f2 f3 f4
          clear B FR
          generalize hW_ : (W5.setCell ⟨g, 1, none⟩ (.float .f64 m)) = W6 at *
          clear hW_
          have B := Aside0.mk b0_; have FR := Aside0.mk r0_
          clear b0_ r0_
          have hc1 : W6.drew.cell? ⟨g, 1, none⟩ = some (.float .f64 m) := blk_cell B.out 1
          have hc2 : W6.drew.cell? ⟨g, 2, none⟩ = some (.float .f64 b) := blk_cell B.out 2
          have BD := Aside0.mk (blk_drew B.out); have FD := Aside0.mk FR.out.drew; clear B FR
          refine start_ (n := 16) (S := fun w' => w'.cell? ⟨g, 1, none⟩ = some (.float .f64 m) ∧ w'.cell? ⟨g, 2, none⟩ = some (.float .f64 b)) (ds := [15]) #[false, false, false, false, false, false, false, false, false, false, false, false, false, false, false, false] (by kernel_rfl) rfl rfl ⟨hc1, hc2⟩ (fun hHeld => ?_)
          refine pure_ (i := 0) (N := some 76) (v := ?_) (a' := ?_) #[true, false, false, false, false, false, false, false, false, false, false, false, false, false, false, false] rfl rfl (by kernel_rfl) (fun _ _ _ h => h) (Or.inl ⟨by kernel_rfl, ?_⟩) ?_ ?_
          rotate_left
          · intro w'
            go_simp
            with_reducible rfl
          rotate_left
          · simp only [Act.put, List.setIfInBounds_toArray, List.set_cons_zero, List.set_cons_succ, i64_w, i32_w]
            rfl
          refine pure_ (i := 1) (N := some 77) (v := ?_) (a' := ?_) #[true, true, false, false, false, false, false, false, false, false, false, false, false, false, false, false] rfl rfl (by kernel_rfl) (fun _ _ _ h => h) (Or.inl ⟨by kernel_rfl, ?_⟩) ?_ ?_
          rotate_left
          · intro w'
            go_simp
            with_reducible rfl
          rotate_left
          · simp only [Act.put, List.setIfInBounds_toArray, List.set_cons_zero, List.set_cons_succ, i64_w, i32_w]
            rfl
          refine pure_ (i := 2) (N := some 78) (v := ?_) (a' := ?_) #[true, true, true, false, false, false, false, false, false, false, false, false, false, false, false, false] rfl rfl (by kernel_rfl) (fun _ _ _ h => h) (Or.inl ⟨by kernel_rfl, ?_⟩) ?_ ?_
          rotate_left
          · intro w'
            go_simp
            with_reducible rfl
          rotate_left
          · simp only [Act.put, List.setIfInBounds_toArray, List.set_cons_zero, List.set_cons_succ, i64_w, i32_w]
            rfl
          refine pure_ (i := 4) (N := some 80) (v := ?_) (a' := ?_) #[true, true, true, false, true, false, false, false, false, false, false, false, false, false, false, false] rfl rfl (by kernel_rfl) (fun _ _ _ h => h) (Or.inl ⟨by kernel_rfl, ?_⟩) ?_ ?_
          rotate_left
          · intro w'
            go_simp
            with_reducible rfl
          rotate_left
          · simp only [Act.put, List.setIfInBounds_toArray, List.set_cons_zero, List.set_cons_succ, i64_w, i32_w]
            rfl
          refine pure_ (i := 5) (N := some 81) (v := ?_) (a' := ?_) #[true, true, true, false, true, true, false, false, false, false, false, false, false, false, false, false] rfl rfl (by kernel_rfl) (fun _ _ _ h => h) (Or.inl ⟨by kernel_rfl, ?_⟩) ?_ ?_
          rotate_left
          · intro w'
            go_simp
            with_reducible rfl
          rotate_left
          · simp only [Act.put, List.setIfInBounds_toArray, List.set_cons_zero, List.set_cons_succ, i64_w, i32_w]
            rfl
          refine pure_ (i := 6) (N := some 82) (v := ?_) (a' := ?_) #[true, true, true, false, true, true, true, false, false, false, false, false, false, false, false, false] rfl rfl (by kernel_rfl) (fun _ _ _ h => h) (Or.inl ⟨by kernel_rfl, ?_⟩) ?_ ?_
          rotate_left
          · intro w'
            go_simp
            with_reducible rfl
          rotate_left
          · simp only [Act.put, List.setIfInBounds_toArray, List.set_cons_zero, List.set_cons_succ, i64_w, i32_w]
            rfl
          refine pure_ (i := 7) (N := some 83) (v := ?_) (a' := ?_) #[true, true, true, false, true, true, true, true, false, false, false, false, false, false, false, false] rfl rfl (by kernel_rfl) (fun _ _ _ h => h) (Or.inl ⟨by kernel_rfl, ?_⟩) ?_ ?_
          rotate_left
          · intro w'
            go_simp
            with_reducible rfl
          rotate_left
          · simp only [Act.put, List.setIfInBounds_toArray, List.set_cons_zero, List.set_cons_succ, i64_w, i32_w]
            rfl
          refine pure_ (i := 8) (N := some 84) (v := ?_) (a' := ?_) #[true, true, true, false, true, true, true, true, true, false, false, false, false, false, false, false] rfl rfl (by kernel_rfl) (fun _ _ _ h => h) (Or.inl ⟨by kernel_rfl, ?_⟩) ?_ ?_
          rotate_left
          · intro w'
            go_simp
            with_reducible rfl
          rotate_left
          · simp only [Act.put, List.setIfInBounds_toArray, List.set_cons_zero, List.set_cons_succ, i64_w, i32_w]
            rfl
          refine take_ (i := 3) (N := some 79) (v := ?_) (a' := ?_) #[true, true, true, true, true, true, true, true, true, false, false, false, false, false, false, false] rfl rfl (by kernel_rfl) (fun _ _ _ h => h) (Or.inl ⟨by kernel_rfl, ?_⟩) hHeld ?_ ?_
          rotate_left
          · rintro w' ⟨s0_, s1_⟩
            go_simp
            with_reducible rfl
          rotate_left
          · simp only [Act.put, List.setIfInBounds_toArray, List.set_cons_zero, List.set_cons_succ, i64_w, i32_w]
            rfl
          refine take_ (i := 9) (N := some 85) (v := ?_) (a' := ?_) #[true, true, true, true, true, true, true, true, true, true, false, false, false, false, false, false] rfl rfl (by kernel_rfl) (fun _ _ _ h => h) (Or.inl ⟨by kernel_rfl, ?_⟩) hHeld ?_ ?_
          rotate_left
          · rintro w' ⟨s0_, s1_⟩
            go_simp
            with_reducible rfl
          rotate_left
          · simp only [Act.put, List.setIfInBounds_toArray, List.set_cons_zero, List.set_cons_succ, i64_w, i32_w]
            rfl
          refine one_ (i := 10) (N := some 86) #[true, true, true, true, true, true, true, true, true, true, true, false, false, false, false, false] rfl rfl (by kernel_rfl) (by decide) (fun K hK => ?_)
          obtain ⟨e1, X1, hrun, e1c, e1l, hq⟩ := run_op (P := Try.prog) W6.drew .sub 22 x m (by simp)
          refine value_ (w1 := ?_) (v := ?_) (by kernel_rfl) rfl ?_ ?_
          rotate_left 2
          · go_simp
            constructor
            · rfl
            · rfl
          have hlt_ := blk_lt BD.out; have b_ := blk_below BD.out hq; have r_ := FD.out.below hlt_ hq; clear BD FD; have BD := Aside0.mk b_; have FD := Aside0.mk r_; clear b_ r_ hlt_
          refine hK _ _ ⟨blk_cell BD.out 1, blk_cell BD.out 2⟩ (fun _ => ?_)
          clear hK K hrun hq
          refine norm_ (a' := ?_) ?_ ?_
          rotate_left
          · show Act.put _ (some 86) _ = _
            simp only [Act.put, List.setIfInBounds_toArray, List.set_cons_zero, List.set_cons_succ, i64_w, i32_w]
            rfl
          refine one_ (i := 11) (N := some 87) #[true, true, true, true, true, true, true, true, true, true, true, true, false, false, false, false] rfl rfl (by kernel_rfl) (by decide) (fun K hK => ?_)
          obtain ⟨e2, X2, hrun, e2c, e2l, hq⟩ := run_op (P := Try.prog) X1 .mul 22 d e1 (by simp)
          refine value_ (w1 := ?_) (v := ?_) (by kernel_rfl) rfl ?_ ?_
          rotate_left 2
          · go_simp
            constructor
            · rfl
            · rfl
          have hlt_ := blk_lt BD.out; have b_ := blk_below BD.out hq; have r_ := FD.out.below hlt_ hq; clear BD FD; have BD := Aside0.mk b_; have FD := Aside0.mk r_; clear b_ r_ hlt_
          refine hK _ _ ⟨blk_cell BD.out 1, blk_cell BD.out 2⟩ (fun _ => ?_)
          clear hK K hrun hq
          refine norm_ (a' := ?_) ?_ ?_
          rotate_left
          · show Act.put _ (some 87) _ = _
            simp only [Act.put, List.setIfInBounds_toArray, List.set_cons_zero, List.set_cons_succ, i64_w, i32_w]
            rfl
          refine one_ (i := 12) (N := some 88) #[true, true, true, true, true, true, true, true, true, true, true, true, true, false, false, false] rfl rfl (by kernel_rfl) (by decide) (fun K hK => ?_)
          obtain ⟨z, X3, hrun, zc, zl, hq⟩ := run_op (P := Try.prog) X2 .add 22 b e2 (by simp)
          refine value_ (w1 := ?_) (v := ?_) (by kernel_rfl) rfl ?_ ?_
          rotate_left 2
          · go_simp
            constructor
            · rfl
            · rfl
          have hlt_ := blk_lt BD.out; have b_ := blk_below BD.out hq; have r_ := FD.out.below hlt_ hq; clear BD FD; have BD := Aside0.mk b_; have FD := Aside0.mk r_; clear b_ r_ hlt_
          refine hK _ _ ⟨blk_cell BD.out 1, blk_cell BD.out 2⟩ (fun _ => ?_)
          clear hK K hrun hq
          refine norm_ (a' := ?_) ?_ ?_
          rotate_left
          · show Act.put _ (some 88) _ = _
            simp only [Act.put, List.setIfInBounds_toArray, List.set_cons_zero, List.set_cons_succ, i64_w, i32_w]
            rfl
          refine pure_ (i := 13) (N := some 89) (v := ?_) (a' := ?_) #[true, true, true, true, true, true, true, true, true, true, true, true, true, true, false, false] rfl rfl (by kernel_rfl) (fun _ _ _ h => h) (Or.inl ⟨by kernel_rfl, ?_⟩) ?_ ?_
          rotate_left
          · intro w'
            go_simp
            with_reducible rfl
          rotate_left
          · simp only [Act.put, List.setIfInBounds_toArray, List.set_cons_zero, List.set_cons_succ, i64_w, i32_w]
            rfl
          refine pure_ (i := 14) (N := some 90) (v := ?_) (a' := ?_) #[true, true, true, true, true, true, true, true, true, true, true, true, true, true, true, false] rfl rfl (by kernel_rfl) (fun _ _ _ h => h) (Or.inl ⟨by kernel_rfl, ?_⟩) ?_ ?_
          rotate_left
          · intro w'
            go_simp
            with_reducible rfl
          rotate_left
          · simp only [Act.put, List.setIfInBounds_toArray, List.set_cons_zero, List.set_cons_succ, i64_w, i32_w]
            rfl
          refine last_ (i := 15) (N := none) #[true, true, true, true, true, true, true, true, true, true, true, true, true, true, true, true] rfl rfl (by kernel_rfl) (by decide) (fun K hK => ?_)
          have q2 : X3.cell? ⟨g, 2, none⟩ = some (.float .f64 b) := blk_cell BD.out 2
          have qf : X3.frozen? ⟨g, 2, none⟩ = false := blk_frozen BD.out 2
          refine skip_ (w1 := ?_) (by kernel_rfl) rfl ?_ ?_
          rotate_left
          · go_simp
            rfl
          refine hK _ _ ?_
          clear hK K q2 qf
          refine done_ (by kernel_rfl) ?_
          clear hHeld hc1 hc2
          have b_ := blk_put (cs' := #[.int .i64 ((s.n : Int) + 1), .float .f64 m, .float .f64 z, .float .f64 s.lo, .float .f64 s.hi]) BD.out 2 (.float .f64 z) rfl
          have r_ := FD.out.set 2 (.float .f64 z)
          have q_ := meter_eq (s := s) HA.out HBB.out dc qc mc e1c e2c zc
          (try simp only [Exit.inBlock, Exit.then])
          refine bodyPost_end (results_none rfl _ _ _) rfl ?_
          refine ⟨rfl, ⟨m, z, ?_, q_.1, q_.2, ml, zl⟩, r_⟩
          rw [HLO.out, HHI.out]
          exact b_
end Go.Proofs.Ytnhlfafdldpdgaa.Pol
