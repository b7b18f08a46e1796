import Derived.Test.YtnhlfafdldpdgaaMeter2
import Derived.Test.YtnhlfafdldpdgaaMeterP
/-! Layer 19: the reference's meter: Note and All. -/
namespace Go.Proofs.Ytnhlfafdldpdgaa.Pol
open Go Go.RowKit Go.Proofs.Ytnhlfafdldpdgaa.Arr Go.Proofs.Ytnhlfafdldpdgaa.Flt Go.Proofs.Ytnhlfafdldpdgaa.Cell Go.Proofs.YtnhlfafdldpdgaaW.PrintWords Go.Proofs.YtnhlfafdldpdgaaW.PrintLast Go.Proofs.YtnhlfafdldpdgaaW.PrintMore
set_option linter.unusedVariables false
set_option linter.unusedSimpArgs false
attribute [local go_sem] run_bits run_frombits run_store_float
attribute [local go_sem high] bin_geq bin_leq neq_eq
set_option maxHeartbeats 4000000 in
theorem rnote_calls (s : MS) (g x : Nat) (hx : x < 18446744073709551616) (ho : OkS s) (w : World) (h : MB 52 w g s) : Calls Try.prog 50 #[.pointer (some ⟨g, 0, none⟩), .float .f64 x] w fun e w' => e = .returned (.tuple #[]) ∧ MB 52 w' g (noteS s x) ∧ Fr g w w' := by
  obtain ⟨a, b, h0, ha, hb, la, lb⟩ := h
  have hN := rnan_calls x
  cases hn : isN x with
  | true =>
    have hs : noteS s x = s := by unfold noteS; rw [hn]; rfl
    rw [hs]
    rw [hn] at hN
    have HN := Aside0.mk hN; clear hN
    have B := Aside0.mk h0; have FR := Aside0.mk (Fr.refl g w)
    clear h0
    go_enter Try.func50, Try.ntmps50
    go_wp2_with (go_at_call 27; with_reducible refine (HN.out _).mono ?_; rintro e w1 ⟨rfl, hb1⟩; have hlt_ := blk_lt B.out; have b_ := blk_below B.out hb1; have r_ := FR.out.below hlt_ hb1; clear B FR hb1 hlt_; have B := Aside0.mk b_; have FR := Aside0.mk r_; clear b_ r_)
    refine bodyPost_ret (results_none rfl _ _ _) rfl ?_
    exact ⟨rfl, ⟨a, b, B.out, ha, hb, la, lb⟩, FR.out⟩
  | false =>
    have hs : noteS s x = ⟨s.n + 1, meanS s x, sumS s x, loS s x, hiS s x⟩ := by unfold noteS; rw [hn]; rfl
    rw [hs]
    rw [hn] at hN
    have HN := Aside0.mk hN; clear hN
    have B := Aside0.mk h0; have FR := Aside0.mk (Fr.refl g w); have HA := Aside0.mk ha; have HBB := Aside0.mk hb; have HX := Aside0.mk hx; have HO := Aside0.mk ho
    clear h0 ha hb hs hx ho la lb
    go_enter Try.func50, Try.ntmps50
    go_upto_region 1 with (go_at_call 27; with_reducible refine (HN.out _).mono ?_; rintro e w1 ⟨rfl, hb1⟩; have hlt_ := blk_lt B.out; have b_ := blk_below B.out hb1; have r_ := FR.out.below hlt_ hb1; clear B FR hb1 hlt_; have B := Aside0.mk b_; have FR := Aside0.mk r_; clear b_ r_)
    by_cases n0 : s.n = 0
    · have z0 : ((s.n : Int) == 0) = true := by simp [n0]
      have N0 := Aside0.mk n0; clear n0
      obtain ⟨⟨c0, c1, c2, c3, c4⟩, fr_⟩ := five B.out; have f0 := fr_ 0; have f1 := fr_ 1; have f2 := fr_ 2; have f3 := fr_ 3; have f4 := fr_ 4; clear fr_
      go_upto_region 3 with (fail)
      have b0_ := blk_put (cs' := #[.int .i64 s.n, .float .f64 a, .float .f64 b, .float .f64 x, .float .f64 s.hi]) B.out 3 (.float .f64 x) rfl
      have r0_ := Fr.set FR.out 3 (.float .f64 x)
      clear c0 c1 c2 c3 c4 f0 f1 f2 f3 f4
      clear B FR
      generalize hW_ : (w1.setCell ⟨g, 3, none⟩ (.float .f64 x)) = U2 at *
      clear hW_
      have B := Aside0.mk b0_; have FR := Aside0.mk r0_
      clear b0_ r0_
      obtain ⟨⟨c0, c1, c2, c3, c4⟩, fr_⟩ := five B.out; have f0 := fr_ 0; have f1 := fr_ 1; have f2 := fr_ 2; have f3 := fr_ 3; have f4 := fr_ 4; clear fr_
      go_upto_region 5 with (fail)
      have b0_ := blk_put (cs' := #[.int .i64 s.n, .float .f64 a, .float .f64 b, .float .f64 x, .float .f64 x]) B.out 4 (.float .f64 x) rfl
      have r0_ := Fr.set FR.out 4 (.float .f64 x)
      clear c0 c1 c2 c3 c4 f0 f1 f2 f3 f4
      clear B FR
      generalize hW_ : (U2.setCell ⟨g, 4, none⟩ (.float .f64 x)) = U3 at *
      clear hW_
      have B := Aside0.mk b0_; have FR := Aside0.mk r0_
      clear b0_ r0_
      obtain ⟨⟨c0, c1, c2, c3, c4⟩, fr_⟩ := five B.out; have f0 := fr_ 0; have f1 := fr_ 1; have f2 := fr_ 2; have f3 := fr_ 3; have f4 := fr_ 4; clear fr_
      have HLO : Aside0 (loS s x = x) := ⟨by unfold loS; rw [if_pos (Or.inl N0.out)]⟩
      have HHI : Aside0 (hiS s x = x) := ⟨by unfold hiS; rw [if_pos (Or.inl N0.out)]⟩
      have hwn : wrap64 ((s.n : Int) + 1) = (s.n : Int) + 1 := by have := HO.out.1; unfold wrap64; omega
      go_upto_region 6 with (fail)
      have b0_ := blk_put (cs' := #[.int .i64 ((s.n : Int) + 1), .float .f64 a, .float .f64 b, .float .f64 x, .float .f64 x]) B.out 0 (.int .i64 ((s.n : Int) + 1)) rfl
      have r0_ := Fr.set FR.out 0 (.int .i64 ((s.n : Int) + 1))
      clear c0 c1 c2 c3 c4 f0 f1 f2 f3 f4
      clear B FR
      generalize hW_ : (U3.setCell ⟨g, 0, none⟩ (.int .i64 ((s.n : Int) + 1))) = V2 at *
      clear hW_
      have B := Aside0.mk b0_; have FR := Aside0.mk r0_
      clear b0_ r0_
      obtain ⟨⟨c0, c1, c2, c3, c4⟩, fr_⟩ := five B.out; have f0 := fr_ 0; have f1 := fr_ 1; have f2 := fr_ 2; have f3 := fr_ 3; have f4 := fr_ 4; clear fr_
      obtain ⟨d, W3, hrun, dc, dl, hq⟩ := run_op (P := Try.prog) V2 .sub 22 x a (by simp)
      go_upto_region 7 with (fail)
      have hlt_ := blk_lt B.out
      have b_ := blk_below B.out hq; have r_ := FR.out.below hlt_ hq
      clear c0 c1 c2 c3 c4 f0 f1 f2 f3 f4
      clear B FR hrun hq hlt_
      have B := Aside0.mk b_; have FR := Aside0.mk r_; clear b_ r_
      obtain ⟨⟨c0, c1, c2, c3, c4⟩, fr_⟩ := five B.out; have f0 := fr_ 0; have f1 := fr_ 1; have f2 := fr_ 2; have f3 := fr_ 3; have f4 := fr_ 4; clear fr_
      obtain ⟨q, W4, hrun, qc, ql, hq⟩ := run_op (P := Try.prog) W3 .quo 22 d (floatOfInt .f64 ((s.n : Int) + 1)) (by simp)
      go_upto_region 8 with (fail)
      have hlt_ := blk_lt B.out
      have b_ := blk_below B.out hq; have r_ := FR.out.below hlt_ hq
      clear c0 c1 c2 c3 c4 f0 f1 f2 f3 f4
      clear B FR hrun hq hlt_
      have B := Aside0.mk b_; have FR := Aside0.mk r_; clear b_ r_
      obtain ⟨⟨c0, c1, c2, c3, c4⟩, fr_⟩ := five B.out; have f0 := fr_ 0; have f1 := fr_ 1; have f2 := fr_ 2; have f3 := fr_ 3; have f4 := fr_ 4; clear fr_
      obtain ⟨m, W5, hrun, mc, ml, hq⟩ := run_op (P := Try.prog) W4 .add 22 a q (by simp)
      have MC := Aside0.mk mc; clear mc
      go_upto_region 9 with (go_at_call 59; with_reducible refine (rcanon_calls m _).mono ?_; rintro e w1 ⟨rfl, hb1⟩; have hlt_ := blk_lt B.out; have b1_ := blk_below B.out (Arr.below_trans hq hb1); have r1_ := FR.out.below hlt_ (Arr.below_trans hq hb1); clear B FR hb1 hlt_ c0 c1 c2 c3 c4 f0 f1 f2 f3 f4; have B := Aside0.mk b1_; have FR := Aside0.mk r1_; clear b1_ r1_; obtain ⟨⟨c0, c1, c2, c3, c4⟩, fr_⟩ := five B.out; have f0 := fr_ 0; have f1 := fr_ 1; have f2 := fr_ 2; have f3 := fr_ 3; have f4 := fr_ 4; clear fr_)
      clear hrun hq
      have b0_ := blk_put (cs' := #[.int .i64 ((s.n : Int) + 1), .float .f64 (cn m), .float .f64 b, .float .f64 x, .float .f64 x]) B.out 1 (.float .f64 (cn m)) rfl
      have r0_ := Fr.set FR.out 1 (.float .f64 (cn m))
      clear c0 c1 c2 c3 c4 f0 f1 f2 f3 f4
      clear B FR
      generalize hW_ : (w1.setCell ⟨g, 1, none⟩ (.float .f64 (cn m))) = W6 at *
      clear hW_
      have B := Aside0.mk b0_; have FR := Aside0.mk r0_
      clear b0_ r0_
      obtain ⟨⟨c0, c1, c2, c3, c4⟩, fr_⟩ := five B.out; have f0 := fr_ 0; have f1 := fr_ 1; have f2 := fr_ 2; have f3 := fr_ 3; have f4 := fr_ 4; clear fr_
      obtain ⟨e1, W7, hrun, e1c, e1l, hq⟩ := run_op (P := Try.prog) W6 .sub 22 x (cn m) (by simp)
      go_upto_region 10 with (fail)
      have hlt_ := blk_lt B.out
      have b_ := blk_below B.out hq; have r_ := FR.out.below hlt_ hq
      clear c0 c1 c2 c3 c4 f0 f1 f2 f3 f4
      clear B FR hrun hq hlt_
      have B := Aside0.mk b_; have FR := Aside0.mk r_; clear b_ r_
      obtain ⟨⟨c0, c1, c2, c3, c4⟩, fr_⟩ := five B.out; have f0 := fr_ 0; have f1 := fr_ 1; have f2 := fr_ 2; have f3 := fr_ 3; have f4 := fr_ 4; clear fr_
      obtain ⟨e2, W8, hrun, e2c, e2l, hq⟩ := run_op (P := Try.prog) W7 .mul 22 d e1 (by simp)
      go_upto_region 11 with (fail)
      have hlt_ := blk_lt B.out
      have b_ := blk_below B.out hq; have r_ := FR.out.below hlt_ hq
      clear c0 c1 c2 c3 c4 f0 f1 f2 f3 f4
      clear B FR hrun hq hlt_
      have B := Aside0.mk b_; have FR := Aside0.mk r_; clear b_ r_
      obtain ⟨⟨c0, c1, c2, c3, c4⟩, fr_⟩ := five B.out; have f0 := fr_ 0; have f1 := fr_ 1; have f2 := fr_ 2; have f3 := fr_ 3; have f4 := fr_ 4; clear fr_
      obtain ⟨z, W9, hrun, zc, zl, hq⟩ := run_op (P := Try.prog) W8 .add 22 b e2 (by simp)
      have ZC := Aside0.mk zc; clear zc
      go_wp2_with (go_at_call 59; with_reducible refine (rcanon_calls z _).mono ?_; rintro e w1 ⟨rfl, hb1⟩; have hlt_ := blk_lt B.out; have b1_ := blk_below B.out (Arr.below_trans hq hb1); have r1_ := FR.out.below hlt_ (Arr.below_trans hq hb1); clear B FR hb1 hlt_ c0 c1 c2 c3 c4 f0 f1 f2 f3 f4; have B := Aside0.mk b1_; have FR := Aside0.mk r1_; clear b1_ r1_; obtain ⟨⟨c0, c1, c2, c3, c4⟩, fr_⟩ := five B.out; have f0 := fr_ 0; have f1 := fr_ 1; have f2 := fr_ 2; have f3 := fr_ 3; have f4 := fr_ 4; clear fr_)
      clear hrun hq
      have b_ := blk_put (cs' := #[.int .i64 ((s.n : Int) + 1), .float .f64 (cn m), .float .f64 (cn z), .float .f64 x, .float .f64 x]) B.out 2 (.float .f64 (cn z)) rfl
      have r_ := FR.out.set 2 (.float .f64 (cn z))
      have q_ := meter_eq (s := s) HA.out HBB.out dc qc ((cn_cn m).trans MC.out) e1c e2c ((cn_cn z).trans ZC.out)
      first | go_end0 | ((try simp only [Exit.inBlock, Exit.then]); refine bodyPost_end (results_none rfl _ _ _) rfl ?_)
      refine ⟨rfl, ⟨cn m, cn z, ?_, q_.1, q_.2, cn_lt ml, cn_lt zl⟩, r_⟩
      rw [HLO.out, HHI.out]
      exact b_
    · have z0 : ((s.n : Int) == 0) = false := by simpa using n0
      have N0 := Aside0.mk n0; clear n0
      have HO1 := Aside0.mk (rorder_calls x s.lo HX.out HO.out.2.1); have HO2 := Aside0.mk (rorder_calls x s.hi HX.out HO.out.2.2)
      by_cases p1 : ordF x s.lo < 0
      · by_cases p2 : 0 < ordF x s.hi
        · have Q1 := Aside0.mk p1; have Q2 := Aside0.mk p2
          obtain ⟨⟨c0, c1, c2, c3, c4⟩, fr_⟩ := five B.out; have f0 := fr_ 0; have f1 := fr_ 1; have f2 := fr_ 2; have f3 := fr_ 3; have f4 := fr_ 4; clear fr_
          go_upto_region 3 with (go_at_call 26; with_reducible refine (HO1.out _).mono ?_; rintro e w1 ⟨rfl, hb1⟩; have hlt_ := blk_lt B.out; have b_ := blk_below B.out hb1; have r_ := FR.out.below hlt_ hb1; clear B FR c0 c1 c2 c3 c4 f0 f1 f2 f3 f4; have B := Aside0.mk b_; have FR := Aside0.mk r_; clear b_ r_ hb1 hlt_; obtain ⟨⟨c0, c1, c2, c3, c4⟩, fr_⟩ := five B.out; have f0 := fr_ 0; have f1 := fr_ 1; have f2 := fr_ 2; have f3 := fr_ 3; have f4 := fr_ 4; clear fr_)
          have b0_ := blk_put (cs' := #[.int .i64 s.n, .float .f64 a, .float .f64 b, .float .f64 x, .float .f64 s.hi]) B.out 3 (.float .f64 x) rfl
          have r0_ := Fr.set FR.out 3 (.float .f64 x)
          clear c0 c1 c2 c3 c4 f0 f1 f2 f3 f4
          clear B FR
          generalize hW_ : (w1.setCell ⟨g, 3, none⟩ (.float .f64 x)) = U2 at *
          clear hW_
          have B := Aside0.mk b0_; have FR := Aside0.mk r0_
          clear b0_ r0_
          obtain ⟨⟨c0, c1, c2, c3, c4⟩, fr_⟩ := five B.out; have f0 := fr_ 0; have f1 := fr_ 1; have f2 := fr_ 2; have f3 := fr_ 3; have f4 := fr_ 4; clear fr_
          go_upto_region 5 with (go_at_call 26; with_reducible refine (HO2.out _).mono ?_; rintro e w1 ⟨rfl, hb1⟩; have hlt_ := blk_lt B.out; have b_ := blk_below B.out hb1; have r_ := FR.out.below hlt_ hb1; clear B FR c0 c1 c2 c3 c4 f0 f1 f2 f3 f4; have B := Aside0.mk b_; have FR := Aside0.mk r_; clear b_ r_ hb1 hlt_; obtain ⟨⟨c0, c1, c2, c3, c4⟩, fr_⟩ := five B.out; have f0 := fr_ 0; have f1 := fr_ 1; have f2 := fr_ 2; have f3 := fr_ 3; have f4 := fr_ 4; clear fr_)
          have b0_ := blk_put (cs' := #[.int .i64 s.n, .float .f64 a, .float .f64 b, .float .f64 x, .float .f64 x]) B.out 4 (.float .f64 x) rfl
          have r0_ := Fr.set FR.out 4 (.float .f64 x)
          clear c0 c1 c2 c3 c4 f0 f1 f2 f3 f4
          clear B FR
          generalize hW_ : (w1.setCell ⟨g, 4, none⟩ (.float .f64 x)) = U3 at *
          clear hW_
          have B := Aside0.mk b0_; have FR := Aside0.mk r0_
          clear b0_ r0_
          obtain ⟨⟨c0, c1, c2, c3, c4⟩, fr_⟩ := five B.out; have f0 := fr_ 0; have f1 := fr_ 1; have f2 := fr_ 2; have f3 := fr_ 3; have f4 := fr_ 4; clear fr_
          have HLO : Aside0 (loS s x = x) := ⟨by unfold loS; rw [if_pos (Or.inr Q1.out)]⟩
          have HHI : Aside0 (hiS s x = x) := ⟨by unfold hiS; rw [if_pos (Or.inr Q2.out)]⟩
          have hwn : wrap64 ((s.n : Int) + 1) = (s.n : Int) + 1 := by have := HO.out.1; unfold wrap64; omega
          go_upto_region 6 with (fail)
          have b0_ := blk_put (cs' := #[.int .i64 ((s.n : Int) + 1), .float .f64 a, .float .f64 b, .float .f64 x, .float .f64 x]) B.out 0 (.int .i64 ((s.n : Int) + 1)) rfl
          have r0_ := Fr.set FR.out 0 (.int .i64 ((s.n : Int) + 1))
          clear c0 c1 c2 c3 c4 f0 f1 f2 f3 f4
          clear B FR
          generalize hW_ : (U3.setCell ⟨g, 0, none⟩ (.int .i64 ((s.n : Int) + 1))) = V2 at *
          clear hW_
          have B := Aside0.mk b0_; have FR := Aside0.mk r0_
          clear b0_ r0_
          obtain ⟨⟨c0, c1, c2, c3, c4⟩, fr_⟩ := five B.out; have f0 := fr_ 0; have f1 := fr_ 1; have f2 := fr_ 2; have f3 := fr_ 3; have f4 := fr_ 4; clear fr_
          obtain ⟨d, W3, hrun, dc, dl, hq⟩ := run_op (P := Try.prog) V2 .sub 22 x a (by simp)
          go_upto_region 7 with (fail)
          have hlt_ := blk_lt B.out
          have b_ := blk_below B.out hq; have r_ := FR.out.below hlt_ hq
          clear c0 c1 c2 c3 c4 f0 f1 f2 f3 f4
          clear B FR hrun hq hlt_
          have B := Aside0.mk b_; have FR := Aside0.mk r_; clear b_ r_
          obtain ⟨⟨c0, c1, c2, c3, c4⟩, fr_⟩ := five B.out; have f0 := fr_ 0; have f1 := fr_ 1; have f2 := fr_ 2; have f3 := fr_ 3; have f4 := fr_ 4; clear fr_
          obtain ⟨q, W4, hrun, qc, ql, hq⟩ := run_op (P := Try.prog) W3 .quo 22 d (floatOfInt .f64 ((s.n : Int) + 1)) (by simp)
          go_upto_region 8 with (fail)
          have hlt_ := blk_lt B.out
          have b_ := blk_below B.out hq; have r_ := FR.out.below hlt_ hq
          clear c0 c1 c2 c3 c4 f0 f1 f2 f3 f4
          clear B FR hrun hq hlt_
          have B := Aside0.mk b_; have FR := Aside0.mk r_; clear b_ r_
          obtain ⟨⟨c0, c1, c2, c3, c4⟩, fr_⟩ := five B.out; have f0 := fr_ 0; have f1 := fr_ 1; have f2 := fr_ 2; have f3 := fr_ 3; have f4 := fr_ 4; clear fr_
          obtain ⟨m, W5, hrun, mc, ml, hq⟩ := run_op (P := Try.prog) W4 .add 22 a q (by simp)
          have MC := Aside0.mk mc; clear mc
          go_upto_region 9 with (go_at_call 59; with_reducible refine (rcanon_calls m _).mono ?_; rintro e w1 ⟨rfl, hb1⟩; have hlt_ := blk_lt B.out; have b1_ := blk_below B.out (Arr.below_trans hq hb1); have r1_ := FR.out.below hlt_ (Arr.below_trans hq hb1); clear B FR hb1 hlt_ c0 c1 c2 c3 c4 f0 f1 f2 f3 f4; have B := Aside0.mk b1_; have FR := Aside0.mk r1_; clear b1_ r1_; obtain ⟨⟨c0, c1, c2, c3, c4⟩, fr_⟩ := five B.out; have f0 := fr_ 0; have f1 := fr_ 1; have f2 := fr_ 2; have f3 := fr_ 3; have f4 := fr_ 4; clear fr_)
          clear hrun hq
          have b0_ := blk_put (cs' := #[.int .i64 ((s.n : Int) + 1), .float .f64 (cn m), .float .f64 b, .float .f64 x, .float .f64 x]) B.out 1 (.float .f64 (cn m)) rfl
          have r0_ := Fr.set FR.out 1 (.float .f64 (cn m))
          clear c0 c1 c2 c3 c4 f0 f1 f2 f3 f4
          clear B FR
          generalize hW_ : (w1.setCell ⟨g, 1, none⟩ (.float .f64 (cn m))) = W6 at *
          clear hW_
          have B := Aside0.mk b0_; have FR := Aside0.mk r0_
          clear b0_ r0_
          obtain ⟨⟨c0, c1, c2, c3, c4⟩, fr_⟩ := five B.out; have f0 := fr_ 0; have f1 := fr_ 1; have f2 := fr_ 2; have f3 := fr_ 3; have f4 := fr_ 4; clear fr_
          obtain ⟨e1, W7, hrun, e1c, e1l, hq⟩ := run_op (P := Try.prog) W6 .sub 22 x (cn m) (by simp)
          go_upto_region 10 with (fail)
          have hlt_ := blk_lt B.out
          have b_ := blk_below B.out hq; have r_ := FR.out.below hlt_ hq
          clear c0 c1 c2 c3 c4 f0 f1 f2 f3 f4
          clear B FR hrun hq hlt_
          have B := Aside0.mk b_; have FR := Aside0.mk r_; clear b_ r_
          obtain ⟨⟨c0, c1, c2, c3, c4⟩, fr_⟩ := five B.out; have f0 := fr_ 0; have f1 := fr_ 1; have f2 := fr_ 2; have f3 := fr_ 3; have f4 := fr_ 4; clear fr_
          obtain ⟨e2, W8, hrun, e2c, e2l, hq⟩ := run_op (P := Try.prog) W7 .mul 22 d e1 (by simp)
          go_upto_region 11 with (fail)
          have hlt_ := blk_lt B.out
          have b_ := blk_below B.out hq; have r_ := FR.out.below hlt_ hq
          clear c0 c1 c2 c3 c4 f0 f1 f2 f3 f4
          clear B FR hrun hq hlt_
          have B := Aside0.mk b_; have FR := Aside0.mk r_; clear b_ r_
          obtain ⟨⟨c0, c1, c2, c3, c4⟩, fr_⟩ := five B.out; have f0 := fr_ 0; have f1 := fr_ 1; have f2 := fr_ 2; have f3 := fr_ 3; have f4 := fr_ 4; clear fr_
          obtain ⟨z, W9, hrun, zc, zl, hq⟩ := run_op (P := Try.prog) W8 .add 22 b e2 (by simp)
          have ZC := Aside0.mk zc; clear zc
          go_wp2_with (go_at_call 59; with_reducible refine (rcanon_calls z _).mono ?_; rintro e w1 ⟨rfl, hb1⟩; have hlt_ := blk_lt B.out; have b1_ := blk_below B.out (Arr.below_trans hq hb1); have r1_ := FR.out.below hlt_ (Arr.below_trans hq hb1); clear B FR hb1 hlt_ c0 c1 c2 c3 c4 f0 f1 f2 f3 f4; have B := Aside0.mk b1_; have FR := Aside0.mk r1_; clear b1_ r1_; obtain ⟨⟨c0, c1, c2, c3, c4⟩, fr_⟩ := five B.out; have f0 := fr_ 0; have f1 := fr_ 1; have f2 := fr_ 2; have f3 := fr_ 3; have f4 := fr_ 4; clear fr_)
          clear hrun hq
          have b_ := blk_put (cs' := #[.int .i64 ((s.n : Int) + 1), .float .f64 (cn m), .float .f64 (cn z), .float .f64 x, .float .f64 x]) B.out 2 (.float .f64 (cn z)) rfl
          have r_ := FR.out.set 2 (.float .f64 (cn z))
          have q_ := meter_eq (s := s) HA.out HBB.out dc qc ((cn_cn m).trans MC.out) e1c e2c ((cn_cn z).trans ZC.out)
          first | go_end0 | ((try simp only [Exit.inBlock, Exit.then]); refine bodyPost_end (results_none rfl _ _ _) rfl ?_)
          refine ⟨rfl, ⟨cn m, cn z, ?_, q_.1, q_.2, cn_lt ml, cn_lt zl⟩, r_⟩
          rw [HLO.out, HHI.out]
          exact b_
        · have Q1 := Aside0.mk p1; have Q2 := Aside0.mk p2
          obtain ⟨⟨c0, c1, c2, c3, c4⟩, fr_⟩ := five B.out; have f0 := fr_ 0; have f1 := fr_ 1; have f2 := fr_ 2; have f3 := fr_ 3; have f4 := fr_ 4; clear fr_
          go_upto_region 3 with (go_at_call 26; with_reducible refine (HO1.out _).mono ?_; rintro e w1 ⟨rfl, hb1⟩; have hlt_ := blk_lt B.out; have b_ := blk_below B.out hb1; have r_ := FR.out.below hlt_ hb1; clear B FR c0 c1 c2 c3 c4 f0 f1 f2 f3 f4; have B := Aside0.mk b_; have FR := Aside0.mk r_; clear b_ r_ hb1 hlt_; obtain ⟨⟨c0, c1, c2, c3, c4⟩, fr_⟩ := five B.out; have f0 := fr_ 0; have f1 := fr_ 1; have f2 := fr_ 2; have f3 := fr_ 3; have f4 := fr_ 4; clear fr_)
          have b0_ := blk_put (cs' := #[.int .i64 s.n, .float .f64 a, .float .f64 b, .float .f64 x, .float .f64 s.hi]) B.out 3 (.float .f64 x) rfl
          have r0_ := Fr.set FR.out 3 (.float .f64 x)
          clear c0 c1 c2 c3 c4 f0 f1 f2 f3 f4
          clear B FR
          generalize hW_ : (w1.setCell ⟨g, 3, none⟩ (.float .f64 x)) = U2 at *
          clear hW_
          have B := Aside0.mk b0_; have FR := Aside0.mk r0_
          clear b0_ r0_
          obtain ⟨⟨c0, c1, c2, c3, c4⟩, fr_⟩ := five B.out; have f0 := fr_ 0; have f1 := fr_ 1; have f2 := fr_ 2; have f3 := fr_ 3; have f4 := fr_ 4; clear fr_
          go_upto_region 5 with (go_at_call 26; with_reducible refine (HO2.out _).mono ?_; rintro e w1 ⟨rfl, hb1⟩; have hlt_ := blk_lt B.out; have b_ := blk_below B.out hb1; have r_ := FR.out.below hlt_ hb1; clear B FR c0 c1 c2 c3 c4 f0 f1 f2 f3 f4; have B := Aside0.mk b_; have FR := Aside0.mk r_; clear b_ r_ hb1 hlt_; obtain ⟨⟨c0, c1, c2, c3, c4⟩, fr_⟩ := five B.out; have f0 := fr_ 0; have f1 := fr_ 1; have f2 := fr_ 2; have f3 := fr_ 3; have f4 := fr_ 4; clear fr_)
          have HLO : Aside0 (loS s x = x) := ⟨by unfold loS; rw [if_pos (Or.inr Q1.out)]⟩
          have HHI : Aside0 (hiS s x = s.hi) := ⟨by unfold hiS; rw [if_neg (fun q => q.elim N0.out (fun z => by have := Q2.out; omega))]⟩
          have hwn : wrap64 ((s.n : Int) + 1) = (s.n : Int) + 1 := by have := HO.out.1; unfold wrap64; omega
          go_upto_region 6 with (fail)
          have b0_ := blk_put (cs' := #[.int .i64 ((s.n : Int) + 1), .float .f64 a, .float .f64 b, .float .f64 x, .float .f64 s.hi]) B.out 0 (.int .i64 ((s.n : Int) + 1)) rfl
          have r0_ := Fr.set FR.out 0 (.int .i64 ((s.n : Int) + 1))
          clear c0 c1 c2 c3 c4 f0 f1 f2 f3 f4
          clear B FR
          generalize hW_ : (w1.setCell ⟨g, 0, none⟩ (.int .i64 ((s.n : Int) + 1))) = V2 at *
          clear hW_
          have B := Aside0.mk b0_; have FR := Aside0.mk r0_
          clear b0_ r0_
          obtain ⟨⟨c0, c1, c2, c3, c4⟩, fr_⟩ := five B.out; have f0 := fr_ 0; have f1 := fr_ 1; have f2 := fr_ 2; have f3 := fr_ 3; have f4 := fr_ 4; clear fr_
          obtain ⟨d, W3, hrun, dc, dl, hq⟩ := run_op (P := Try.prog) V2 .sub 22 x a (by simp)
          go_upto_region 7 with (fail)
          have hlt_ := blk_lt B.out
          have b_ := blk_below B.out hq; have r_ := FR.out.below hlt_ hq
          clear c0 c1 c2 c3 c4 f0 f1 f2 f3 f4
          clear B FR hrun hq hlt_
          have B := Aside0.mk b_; have FR := Aside0.mk r_; clear b_ r_
          obtain ⟨⟨c0, c1, c2, c3, c4⟩, fr_⟩ := five B.out; have f0 := fr_ 0; have f1 := fr_ 1; have f2 := fr_ 2; have f3 := fr_ 3; have f4 := fr_ 4; clear fr_
          obtain ⟨q, W4, hrun, qc, ql, hq⟩ := run_op (P := Try.prog) W3 .quo 22 d (floatOfInt .f64 ((s.n : Int) + 1)) (by simp)
          go_upto_region 8 with (fail)
          have hlt_ := blk_lt B.out
          have b_ := blk_below B.out hq; have r_ := FR.out.below hlt_ hq
          clear c0 c1 c2 c3 c4 f0 f1 f2 f3 f4
          clear B FR hrun hq hlt_
          have B := Aside0.mk b_; have FR := Aside0.mk r_; clear b_ r_
          obtain ⟨⟨c0, c1, c2, c3, c4⟩, fr_⟩ := five B.out; have f0 := fr_ 0; have f1 := fr_ 1; have f2 := fr_ 2; have f3 := fr_ 3; have f4 := fr_ 4; clear fr_
          obtain ⟨m, W5, hrun, mc, ml, hq⟩ := run_op (P := Try.prog) W4 .add 22 a q (by simp)
          have MC := Aside0.mk mc; clear mc
          go_upto_region 9 with (go_at_call 59; with_reducible refine (rcanon_calls m _).mono ?_; rintro e w1 ⟨rfl, hb1⟩; have hlt_ := blk_lt B.out; have b1_ := blk_below B.out (Arr.below_trans hq hb1); have r1_ := FR.out.below hlt_ (Arr.below_trans hq hb1); clear B FR hb1 hlt_ c0 c1 c2 c3 c4 f0 f1 f2 f3 f4; have B := Aside0.mk b1_; have FR := Aside0.mk r1_; clear b1_ r1_; obtain ⟨⟨c0, c1, c2, c3, c4⟩, fr_⟩ := five B.out; have f0 := fr_ 0; have f1 := fr_ 1; have f2 := fr_ 2; have f3 := fr_ 3; have f4 := fr_ 4; clear fr_)
          clear hrun hq
          have b0_ := blk_put (cs' := #[.int .i64 ((s.n : Int) + 1), .float .f64 (cn m), .float .f64 b, .float .f64 x, .float .f64 s.hi]) B.out 1 (.float .f64 (cn m)) rfl
          have r0_ := Fr.set FR.out 1 (.float .f64 (cn m))
          clear c0 c1 c2 c3 c4 f0 f1 f2 f3 f4
          clear B FR
          generalize hW_ : (w1.setCell ⟨g, 1, none⟩ (.float .f64 (cn m))) = W6 at *
          clear hW_
          have B := Aside0.mk b0_; have FR := Aside0.mk r0_
          clear b0_ r0_
          obtain ⟨⟨c0, c1, c2, c3, c4⟩, fr_⟩ := five B.out; have f0 := fr_ 0; have f1 := fr_ 1; have f2 := fr_ 2; have f3 := fr_ 3; have f4 := fr_ 4; clear fr_
          obtain ⟨e1, W7, hrun, e1c, e1l, hq⟩ := run_op (P := Try.prog) W6 .sub 22 x (cn m) (by simp)
          go_upto_region 10 with (fail)
          have hlt_ := blk_lt B.out
          have b_ := blk_below B.out hq; have r_ := FR.out.below hlt_ hq
          clear c0 c1 c2 c3 c4 f0 f1 f2 f3 f4
          clear B FR hrun hq hlt_
          have B := Aside0.mk b_; have FR := Aside0.mk r_; clear b_ r_
          obtain ⟨⟨c0, c1, c2, c3, c4⟩, fr_⟩ := five B.out; have f0 := fr_ 0; have f1 := fr_ 1; have f2 := fr_ 2; have f3 := fr_ 3; have f4 := fr_ 4; clear fr_
          obtain ⟨e2, W8, hrun, e2c, e2l, hq⟩ := run_op (P := Try.prog) W7 .mul 22 d e1 (by simp)
          go_upto_region 11 with (fail)
          have hlt_ := blk_lt B.out
          have b_ := blk_below B.out hq; have r_ := FR.out.below hlt_ hq
          clear c0 c1 c2 c3 c4 f0 f1 f2 f3 f4
          clear B FR hrun hq hlt_
          have B := Aside0.mk b_; have FR := Aside0.mk r_; clear b_ r_
          obtain ⟨⟨c0, c1, c2, c3, c4⟩, fr_⟩ := five B.out; have f0 := fr_ 0; have f1 := fr_ 1; have f2 := fr_ 2; have f3 := fr_ 3; have f4 := fr_ 4; clear fr_
          obtain ⟨z, W9, hrun, zc, zl, hq⟩ := run_op (P := Try.prog) W8 .add 22 b e2 (by simp)
          have ZC := Aside0.mk zc; clear zc
          go_wp2_with (go_at_call 59; with_reducible refine (rcanon_calls z _).mono ?_; rintro e w1 ⟨rfl, hb1⟩; have hlt_ := blk_lt B.out; have b1_ := blk_below B.out (Arr.below_trans hq hb1); have r1_ := FR.out.below hlt_ (Arr.below_trans hq hb1); clear B FR hb1 hlt_ c0 c1 c2 c3 c4 f0 f1 f2 f3 f4; have B := Aside0.mk b1_; have FR := Aside0.mk r1_; clear b1_ r1_; obtain ⟨⟨c0, c1, c2, c3, c4⟩, fr_⟩ := five B.out; have f0 := fr_ 0; have f1 := fr_ 1; have f2 := fr_ 2; have f3 := fr_ 3; have f4 := fr_ 4; clear fr_)
          clear hrun hq
          have b_ := blk_put (cs' := #[.int .i64 ((s.n : Int) + 1), .float .f64 (cn m), .float .f64 (cn z), .float .f64 x, .float .f64 s.hi]) B.out 2 (.float .f64 (cn z)) rfl
          have r_ := FR.out.set 2 (.float .f64 (cn z))
          have q_ := meter_eq (s := s) HA.out HBB.out dc qc ((cn_cn m).trans MC.out) e1c e2c ((cn_cn z).trans ZC.out)
          first | go_end0 | ((try simp only [Exit.inBlock, Exit.then]); refine bodyPost_end (results_none rfl _ _ _) rfl ?_)
          refine ⟨rfl, ⟨cn m, cn z, ?_, q_.1, q_.2, cn_lt ml, cn_lt zl⟩, r_⟩
          rw [HLO.out, HHI.out]
          exact b_
      · by_cases p2 : 0 < ordF x s.hi
        · have Q1 := Aside0.mk p1; have Q2 := Aside0.mk p2
          obtain ⟨⟨c0, c1, c2, c3, c4⟩, fr_⟩ := five B.out; have f0 := fr_ 0; have f1 := fr_ 1; have f2 := fr_ 2; have f3 := fr_ 3; have f4 := fr_ 4; clear fr_
          go_upto_region 3 with (go_at_call 26; with_reducible refine (HO1.out _).mono ?_; rintro e w1 ⟨rfl, hb1⟩; have hlt_ := blk_lt B.out; have b_ := blk_below B.out hb1; have r_ := FR.out.below hlt_ hb1; clear B FR c0 c1 c2 c3 c4 f0 f1 f2 f3 f4; have B := Aside0.mk b_; have FR := Aside0.mk r_; clear b_ r_ hb1 hlt_; obtain ⟨⟨c0, c1, c2, c3, c4⟩, fr_⟩ := five B.out; have f0 := fr_ 0; have f1 := fr_ 1; have f2 := fr_ 2; have f3 := fr_ 3; have f4 := fr_ 4; clear fr_)
          go_upto_region 5 with (go_at_call 26; with_reducible refine (HO2.out _).mono ?_; rintro e w1 ⟨rfl, hb1⟩; have hlt_ := blk_lt B.out; have b_ := blk_below B.out hb1; have r_ := FR.out.below hlt_ hb1; clear B FR c0 c1 c2 c3 c4 f0 f1 f2 f3 f4; have B := Aside0.mk b_; have FR := Aside0.mk r_; clear b_ r_ hb1 hlt_; obtain ⟨⟨c0, c1, c2, c3, c4⟩, fr_⟩ := five B.out; have f0 := fr_ 0; have f1 := fr_ 1; have f2 := fr_ 2; have f3 := fr_ 3; have f4 := fr_ 4; clear fr_)
          have b0_ := blk_put (cs' := #[.int .i64 s.n, .float .f64 a, .float .f64 b, .float .f64 s.lo, .float .f64 x]) B.out 4 (.float .f64 x) rfl
          have r0_ := Fr.set FR.out 4 (.float .f64 x)
          clear c0 c1 c2 c3 c4 f0 f1 f2 f3 f4
          clear B FR
          generalize hW_ : (w1.setCell ⟨g, 4, none⟩ (.float .f64 x)) = U3 at *
          clear hW_
          have B := Aside0.mk b0_; have FR := Aside0.mk r0_
          clear b0_ r0_
          obtain ⟨⟨c0, c1, c2, c3, c4⟩, fr_⟩ := five B.out; have f0 := fr_ 0; have f1 := fr_ 1; have f2 := fr_ 2; have f3 := fr_ 3; have f4 := fr_ 4; clear fr_
          have HLO : Aside0 (loS s x = s.lo) := ⟨by unfold loS; rw [if_neg (fun q => q.elim N0.out (fun z => by have := Q1.out; omega))]⟩
          have HHI : Aside0 (hiS s x = x) := ⟨by unfold hiS; rw [if_pos (Or.inr Q2.out)]⟩
          have hwn : wrap64 ((s.n : Int) + 1) = (s.n : Int) + 1 := by have := HO.out.1; unfold wrap64; omega
          go_upto_region 6 with (fail)
          have b0_ := blk_put (cs' := #[.int .i64 ((s.n : Int) + 1), .float .f64 a, .float .f64 b, .float .f64 s.lo, .float .f64 x]) B.out 0 (.int .i64 ((s.n : Int) + 1)) rfl
          have r0_ := Fr.set FR.out 0 (.int .i64 ((s.n : Int) + 1))
          clear c0 c1 c2 c3 c4 f0 f1 f2 f3 f4
          clear B FR
          generalize hW_ : (U3.setCell ⟨g, 0, none⟩ (.int .i64 ((s.n : Int) + 1))) = V2 at *
          clear hW_
          have B := Aside0.mk b0_; have FR := Aside0.mk r0_
          clear b0_ r0_
          obtain ⟨⟨c0, c1, c2, c3, c4⟩, fr_⟩ := five B.out; have f0 := fr_ 0; have f1 := fr_ 1; have f2 := fr_ 2; have f3 := fr_ 3; have f4 := fr_ 4; clear fr_
          obtain ⟨d, W3, hrun, dc, dl, hq⟩ := run_op (P := Try.prog) V2 .sub 22 x a (by simp)
          go_upto_region 7 with (fail)
          have hlt_ := blk_lt B.out
          have b_ := blk_below B.out hq; have r_ := FR.out.below hlt_ hq
          clear c0 c1 c2 c3 c4 f0 f1 f2 f3 f4
          clear B FR hrun hq hlt_
          have B := Aside0.mk b_; have FR := Aside0.mk r_; clear b_ r_
          obtain ⟨⟨c0, c1, c2, c3, c4⟩, fr_⟩ := five B.out; have f0 := fr_ 0; have f1 := fr_ 1; have f2 := fr_ 2; have f3 := fr_ 3; have f4 := fr_ 4; clear fr_
          obtain ⟨q, W4, hrun, qc, ql, hq⟩ := run_op (P := Try.prog) W3 .quo 22 d (floatOfInt .f64 ((s.n : Int) + 1)) (by simp)
          go_upto_region 8 with (fail)
          have hlt_ := blk_lt B.out
          have b_ := blk_below B.out hq; have r_ := FR.out.below hlt_ hq
          clear c0 c1 c2 c3 c4 f0 f1 f2 f3 f4
          clear B FR hrun hq hlt_
          have B := Aside0.mk b_; have FR := Aside0.mk r_; clear b_ r_
          obtain ⟨⟨c0, c1, c2, c3, c4⟩, fr_⟩ := five B.out; have f0 := fr_ 0; have f1 := fr_ 1; have f2 := fr_ 2; have f3 := fr_ 3; have f4 := fr_ 4; clear fr_
          obtain ⟨m, W5, hrun, mc, ml, hq⟩ := run_op (P := Try.prog) W4 .add 22 a q (by simp)
          have MC := Aside0.mk mc; clear mc
          go_upto_region 9 with (go_at_call 59; with_reducible refine (rcanon_calls m _).mono ?_; rintro e w1 ⟨rfl, hb1⟩; have hlt_ := blk_lt B.out; have b1_ := blk_below B.out (Arr.below_trans hq hb1); have r1_ := FR.out.below hlt_ (Arr.below_trans hq hb1); clear B FR hb1 hlt_ c0 c1 c2 c3 c4 f0 f1 f2 f3 f4; have B := Aside0.mk b1_; have FR := Aside0.mk r1_; clear b1_ r1_; obtain ⟨⟨c0, c1, c2, c3, c4⟩, fr_⟩ := five B.out; have f0 := fr_ 0; have f1 := fr_ 1; have f2 := fr_ 2; have f3 := fr_ 3; have f4 := fr_ 4; clear fr_)
          clear hrun hq
          have b0_ := blk_put (cs' := #[.int .i64 ((s.n : Int) + 1), .float .f64 (cn m), .float .f64 b, .float .f64 s.lo, .float .f64 x]) B.out 1 (.float .f64 (cn m)) rfl
          have r0_ := Fr.set FR.out 1 (.float .f64 (cn m))
          clear c0 c1 c2 c3 c4 f0 f1 f2 f3 f4
          clear B FR
          generalize hW_ : (w1.setCell ⟨g, 1, none⟩ (.float .f64 (cn m))) = W6 at *
          clear hW_
          have B := Aside0.mk b0_; have FR := Aside0.mk r0_
          clear b0_ r0_
          obtain ⟨⟨c0, c1, c2, c3, c4⟩, fr_⟩ := five B.out; have f0 := fr_ 0; have f1 := fr_ 1; have f2 := fr_ 2; have f3 := fr_ 3; have f4 := fr_ 4; clear fr_
          obtain ⟨e1, W7, hrun, e1c, e1l, hq⟩ := run_op (P := Try.prog) W6 .sub 22 x (cn m) (by simp)
          go_upto_region 10 with (fail)
          have hlt_ := blk_lt B.out
          have b_ := blk_below B.out hq; have r_ := FR.out.below hlt_ hq
          clear c0 c1 c2 c3 c4 f0 f1 f2 f3 f4
          clear B FR hrun hq hlt_
          have B := Aside0.mk b_; have FR := Aside0.mk r_; clear b_ r_
          obtain ⟨⟨c0, c1, c2, c3, c4⟩, fr_⟩ := five B.out; have f0 := fr_ 0; have f1 := fr_ 1; have f2 := fr_ 2; have f3 := fr_ 3; have f4 := fr_ 4; clear fr_
          obtain ⟨e2, W8, hrun, e2c, e2l, hq⟩ := run_op (P := Try.prog) W7 .mul 22 d e1 (by simp)
          go_upto_region 11 with (fail)
          have hlt_ := blk_lt B.out
          have b_ := blk_below B.out hq; have r_ := FR.out.below hlt_ hq
          clear c0 c1 c2 c3 c4 f0 f1 f2 f3 f4
          clear B FR hrun hq hlt_
          have B := Aside0.mk b_; have FR := Aside0.mk r_; clear b_ r_
          obtain ⟨⟨c0, c1, c2, c3, c4⟩, fr_⟩ := five B.out; have f0 := fr_ 0; have f1 := fr_ 1; have f2 := fr_ 2; have f3 := fr_ 3; have f4 := fr_ 4; clear fr_
          obtain ⟨z, W9, hrun, zc, zl, hq⟩ := run_op (P := Try.prog) W8 .add 22 b e2 (by simp)
          have ZC := Aside0.mk zc; clear zc
          go_wp2_with (go_at_call 59; with_reducible refine (rcanon_calls z _).mono ?_; rintro e w1 ⟨rfl, hb1⟩; have hlt_ := blk_lt B.out; have b1_ := blk_below B.out (Arr.below_trans hq hb1); have r1_ := FR.out.below hlt_ (Arr.below_trans hq hb1); clear B FR hb1 hlt_ c0 c1 c2 c3 c4 f0 f1 f2 f3 f4; have B := Aside0.mk b1_; have FR := Aside0.mk r1_; clear b1_ r1_; obtain ⟨⟨c0, c1, c2, c3, c4⟩, fr_⟩ := five B.out; have f0 := fr_ 0; have f1 := fr_ 1; have f2 := fr_ 2; have f3 := fr_ 3; have f4 := fr_ 4; clear fr_)
          clear hrun hq
          have b_ := blk_put (cs' := #[.int .i64 ((s.n : Int) + 1), .float .f64 (cn m), .float .f64 (cn z), .float .f64 s.lo, .float .f64 x]) B.out 2 (.float .f64 (cn z)) rfl
          have r_ := FR.out.set 2 (.float .f64 (cn z))
          have q_ := meter_eq (s := s) HA.out HBB.out dc qc ((cn_cn m).trans MC.out) e1c e2c ((cn_cn z).trans ZC.out)
          first | go_end0 | ((try simp only [Exit.inBlock, Exit.then]); refine bodyPost_end (results_none rfl _ _ _) rfl ?_)
          refine ⟨rfl, ⟨cn m, cn z, ?_, q_.1, q_.2, cn_lt ml, cn_lt zl⟩, r_⟩
          rw [HLO.out, HHI.out]
          exact b_
        · have Q1 := Aside0.mk p1; have Q2 := Aside0.mk p2
          obtain ⟨⟨c0, c1, c2, c3, c4⟩, fr_⟩ := five B.out; have f0 := fr_ 0; have f1 := fr_ 1; have f2 := fr_ 2; have f3 := fr_ 3; have f4 := fr_ 4; clear fr_
          go_upto_region 3 with (go_at_call 26; with_reducible refine (HO1.out _).mono ?_; rintro e w1 ⟨rfl, hb1⟩; have hlt_ := blk_lt B.out; have b_ := blk_below B.out hb1; have r_ := FR.out.below hlt_ hb1; clear B FR c0 c1 c2 c3 c4 f0 f1 f2 f3 f4; have B := Aside0.mk b_; have FR := Aside0.mk r_; clear b_ r_ hb1 hlt_; obtain ⟨⟨c0, c1, c2, c3, c4⟩, fr_⟩ := five B.out; have f0 := fr_ 0; have f1 := fr_ 1; have f2 := fr_ 2; have f3 := fr_ 3; have f4 := fr_ 4; clear fr_)
          go_upto_region 5 with (go_at_call 26; with_reducible refine (HO2.out _).mono ?_; rintro e w1 ⟨rfl, hb1⟩; have hlt_ := blk_lt B.out; have b_ := blk_below B.out hb1; have r_ := FR.out.below hlt_ hb1; clear B FR c0 c1 c2 c3 c4 f0 f1 f2 f3 f4; have B := Aside0.mk b_; have FR := Aside0.mk r_; clear b_ r_ hb1 hlt_; obtain ⟨⟨c0, c1, c2, c3, c4⟩, fr_⟩ := five B.out; have f0 := fr_ 0; have f1 := fr_ 1; have f2 := fr_ 2; have f3 := fr_ 3; have f4 := fr_ 4; clear fr_)
          have HLO : Aside0 (loS s x = s.lo) := ⟨by unfold loS; rw [if_neg (fun q => q.elim N0.out (fun z => by have := Q1.out; omega))]⟩
          have HHI : Aside0 (hiS s x = s.hi) := ⟨by unfold hiS; rw [if_neg (fun q => q.elim N0.out (fun z => by have := Q2.out; omega))]⟩
          have hwn : wrap64 ((s.n : Int) + 1) = (s.n : Int) + 1 := by have := HO.out.1; unfold wrap64; omega
          go_upto_region 6 with (fail)
          have b0_ := blk_put (cs' := #[.int .i64 ((s.n : Int) + 1), .float .f64 a, .float .f64 b, .float .f64 s.lo, .float .f64 s.hi]) B.out 0 (.int .i64 ((s.n : Int) + 1)) rfl
          have r0_ := Fr.set FR.out 0 (.int .i64 ((s.n : Int) + 1))
          clear c0 c1 c2 c3 c4 f0 f1 f2 f3 f4
          clear B FR
          generalize hW_ : (w1.setCell ⟨g, 0, none⟩ (.int .i64 ((s.n : Int) + 1))) = V2 at *
          clear hW_
          have B := Aside0.mk b0_; have FR := Aside0.mk r0_
          clear b0_ r0_
          obtain ⟨⟨c0, c1, c2, c3, c4⟩, fr_⟩ := five B.out; have f0 := fr_ 0; have f1 := fr_ 1; have f2 := fr_ 2; have f3 := fr_ 3; have f4 := fr_ 4; clear fr_
          obtain ⟨d, W3, hrun, dc, dl, hq⟩ := run_op (P := Try.prog) V2 .sub 22 x a (by simp)
          go_upto_region 7 with (fail)
          have hlt_ := blk_lt B.out
          have b_ := blk_below B.out hq; have r_ := FR.out.below hlt_ hq
          clear c0 c1 c2 c3 c4 f0 f1 f2 f3 f4
          clear B FR hrun hq hlt_
          have B := Aside0.mk b_; have FR := Aside0.mk r_; clear b_ r_
          obtain ⟨⟨c0, c1, c2, c3, c4⟩, fr_⟩ := five B.out; have f0 := fr_ 0; have f1 := fr_ 1; have f2 := fr_ 2; have f3 := fr_ 3; have f4 := fr_ 4; clear fr_
          obtain ⟨q, W4, hrun, qc, ql, hq⟩ := run_op (P := Try.prog) W3 .quo 22 d (floatOfInt .f64 ((s.n : Int) + 1)) (by simp)
          go_upto_region 8 with (fail)
          have hlt_ := blk_lt B.out
          have b_ := blk_below B.out hq; have r_ := FR.out.below hlt_ hq
          clear c0 c1 c2 c3 c4 f0 f1 f2 f3 f4
          clear B FR hrun hq hlt_
          have B := Aside0.mk b_; have FR := Aside0.mk r_; clear b_ r_
          obtain ⟨⟨c0, c1, c2, c3, c4⟩, fr_⟩ := five B.out; have f0 := fr_ 0; have f1 := fr_ 1; have f2 := fr_ 2; have f3 := fr_ 3; have f4 := fr_ 4; clear fr_
          obtain ⟨m, W5, hrun, mc, ml, hq⟩ := run_op (P := Try.prog) W4 .add 22 a q (by simp)
          have MC := Aside0.mk mc; clear mc
          go_upto_region 9 with (go_at_call 59; with_reducible refine (rcanon_calls m _).mono ?_; rintro e w1 ⟨rfl, hb1⟩; have hlt_ := blk_lt B.out; have b1_ := blk_below B.out (Arr.below_trans hq hb1); have r1_ := FR.out.below hlt_ (Arr.below_trans hq hb1); clear B FR hb1 hlt_ c0 c1 c2 c3 c4 f0 f1 f2 f3 f4; have B := Aside0.mk b1_; have FR := Aside0.mk r1_; clear b1_ r1_; obtain ⟨⟨c0, c1, c2, c3, c4⟩, fr_⟩ := five B.out; have f0 := fr_ 0; have f1 := fr_ 1; have f2 := fr_ 2; have f3 := fr_ 3; have f4 := fr_ 4; clear fr_)
          clear hrun hq
          have b0_ := blk_put (cs' := #[.int .i64 ((s.n : Int) + 1), .float .f64 (cn m), .float .f64 b, .float .f64 s.lo, .float .f64 s.hi]) B.out 1 (.float .f64 (cn m)) rfl
          have r0_ := Fr.set FR.out 1 (.float .f64 (cn m))
          clear c0 c1 c2 c3 c4 f0 f1 f2 f3 f4
          clear B FR
          generalize hW_ : (w1.setCell ⟨g, 1, none⟩ (.float .f64 (cn m))) = W6 at *
          clear hW_
          have B := Aside0.mk b0_; have FR := Aside0.mk r0_
          clear b0_ r0_
          obtain ⟨⟨c0, c1, c2, c3, c4⟩, fr_⟩ := five B.out; have f0 := fr_ 0; have f1 := fr_ 1; have f2 := fr_ 2; have f3 := fr_ 3; have f4 := fr_ 4; clear fr_
          obtain ⟨e1, W7, hrun, e1c, e1l, hq⟩ := run_op (P := Try.prog) W6 .sub 22 x (cn m) (by simp)
          go_upto_region 10 with (fail)
          have hlt_ := blk_lt B.out
          have b_ := blk_below B.out hq; have r_ := FR.out.below hlt_ hq
          clear c0 c1 c2 c3 c4 f0 f1 f2 f3 f4
          clear B FR hrun hq hlt_
          have B := Aside0.mk b_; have FR := Aside0.mk r_; clear b_ r_
          obtain ⟨⟨c0, c1, c2, c3, c4⟩, fr_⟩ := five B.out; have f0 := fr_ 0; have f1 := fr_ 1; have f2 := fr_ 2; have f3 := fr_ 3; have f4 := fr_ 4; clear fr_
          obtain ⟨e2, W8, hrun, e2c, e2l, hq⟩ := run_op (P := Try.prog) W7 .mul 22 d e1 (by simp)
          go_upto_region 11 with (fail)
          have hlt_ := blk_lt B.out
          have b_ := blk_below B.out hq; have r_ := FR.out.below hlt_ hq
          clear c0 c1 c2 c3 c4 f0 f1 f2 f3 f4
          clear B FR hrun hq hlt_
          have B := Aside0.mk b_; have FR := Aside0.mk r_; clear b_ r_
          obtain ⟨⟨c0, c1, c2, c3, c4⟩, fr_⟩ := five B.out; have f0 := fr_ 0; have f1 := fr_ 1; have f2 := fr_ 2; have f3 := fr_ 3; have f4 := fr_ 4; clear fr_
          obtain ⟨z, W9, hrun, zc, zl, hq⟩ := run_op (P := Try.prog) W8 .add 22 b e2 (by simp)
          have ZC := Aside0.mk zc; clear zc
          go_wp2_with (go_at_call 59; with_reducible refine (rcanon_calls z _).mono ?_; rintro e w1 ⟨rfl, hb1⟩; have hlt_ := blk_lt B.out; have b1_ := blk_below B.out (Arr.below_trans hq hb1); have r1_ := FR.out.below hlt_ (Arr.below_trans hq hb1); clear B FR hb1 hlt_ c0 c1 c2 c3 c4 f0 f1 f2 f3 f4; have B := Aside0.mk b1_; have FR := Aside0.mk r1_; clear b1_ r1_; obtain ⟨⟨c0, c1, c2, c3, c4⟩, fr_⟩ := five B.out; have f0 := fr_ 0; have f1 := fr_ 1; have f2 := fr_ 2; have f3 := fr_ 3; have f4 := fr_ 4; clear fr_)
          clear hrun hq
          have b_ := blk_put (cs' := #[.int .i64 ((s.n : Int) + 1), .float .f64 (cn m), .float .f64 (cn z), .float .f64 s.lo, .float .f64 s.hi]) B.out 2 (.float .f64 (cn z)) rfl
          have r_ := FR.out.set 2 (.float .f64 (cn z))
          have q_ := meter_eq (s := s) HA.out HBB.out dc qc ((cn_cn m).trans MC.out) e1c e2c ((cn_cn z).trans ZC.out)
          first | go_end0 | ((try simp only [Exit.inBlock, Exit.then]); refine bodyPost_end (results_none rfl _ _ _) rfl ?_)
          refine ⟨rfl, ⟨cn m, cn z, ?_, q_.1, q_.2, cn_lt ml, cn_lt zl⟩, r_⟩
          rw [HLO.out, HHI.out]
          exact b_
end Go.Proofs.Ytnhlfafdldpdgaa.Pol
