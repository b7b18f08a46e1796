import Derived.Test.YtcfknakmamcinaaQCZ0
import Derived.Test.YtcfknakmamcinaaQCZ1
import Derived.Test.YtcfknakmamcinaaQCZ2
import Derived.Test.YtcfknakmamcinaaQCZ3
import Derived.Test.YtcfknakmamcinaaQCZ4
import Derived.Test.YtcfknakmamcinaaQCZ5
import Derived.Test.YtcfknakmamcinaaQCZ6
import Derived.Test.YtcfknakmamcinaaQCZ7
import Derived.Test.YtcfknakmamcinaaQCZ8
import Derived.Test.YtcfknakmamcinaaQCZ9
import Derived.Test.YtcfknakmamcinaaQCZ10
import Derived.Test.YtcfknakmamcinaaQCZ11
import Derived.Test.YtcfknakmamcinaaQCZ12
import Derived.Test.YtcfknakmamcinaaQCZ13
import Derived.Test.YtcfknakmamcinaaQCZ14
import Derived.Test.YtcfknakmamcinaaQCZ15
import Derived.Test.YtcfknakmamcinaaQCZ16
namespace Go.Proofs.Ytcfknakmamcinaa.Wr
open Go.Proofs.Ytcfknakmamcinaa.Rgn
open Go.Proofs.Ytcfknakmamcinaa.Rp Go.Proofs.Ytcfknakmamcinaa.X4
open Go Go.RowKit Go.ChangeMaps Go.Proofs.Ytcfknakmamcinaa.Arr Go.Proofs.Ytcfknakmamcinaa.Ow Go.Proofs.YtcfknakmamcinaaW.PrintWords Go.Proofs.YtcfknakmamcinaaW.PrintLast Go.Proofs.YtcfknakmamcinaaW.PrintMore
set_option linter.unusedVariables false
set_option linter.unusedSimpArgs false
set_option maxHeartbeats 8000000 in
set_option maxRecDepth 100000 in
theorem rr_three (s : ByteArray) (n : Nat) (x1 : St) (w : World) (hs : s.size ≤ 1000000) (hn : n ≤ s.size) (h0 : smallI (s.extract n s.size, false) = (3, x1)) : Calls Try.prog 19 #[.string s, .int .i64 (n : Int)] w fun x w' => AfterRR s (n : Int) w x w' := by
  have HS := Aside0.mk hs
  have HREC := Aside0.mk (show recI (s.extract n s.size, false) = recI3 3 x1 by unfold recI; rw [h0]; simp only; rw [if_neg (by decide), if_neg (by decide), if_pos (by decide)])
  have HX1 := Aside0.mk (show x1.1.size ≤ 1000000 by have h := smallI_le (s.extract n s.size, false); rw [h0] at h; rw [ByteArray.size_extract] at h; have h2 : x1.1.size ≤ min s.size s.size - n := h; omega)
  have HRF0 := Aside0.mk (show rreadF s (n : Int) = (if (recI (s.extract n s.size, false)).2.2 = true ∨ mayB (recI (s.extract n s.size, false)).1 = false then (Rp.zR, 0, 3) else ((recI (s.extract n s.size, false)).1, (s.size : Int) - ((recI (s.extract n s.size, false)).2.1.size : Int), 0)) by unfold rreadF; rw [if_neg (by omega), Int.toNat_natCast])
  have E1 := Aside0.mk h0
  have t1 : decide ((n : Int) < 0) = false := decide_eq_false (by omega)
  have t2 : decide ((s.size : Int) < (n : Int)) = false := decide_eq_false (by omega)
  have t3 : decide (s.size < n) = false := decide_eq_false (by omega)
  have b1 : (0 : Int) ≤ (n : Int) := by omega
  have b2 : (n : Int) ≤ (s.size : Int) := by omega
  clear hs hn h0
  go_enter Try.func19, Try.ntmps19
  go_upto_region 4 with (fail)
  clear t1 t2 t3 b1 b2
  obtain ⟨W0, hW0, HB0, HZ0, HI0⟩ : ∃ W0, W0 = ((w.alloc (.cells #[.int .i64 0, .int .i64 0, .int .i64 0, .int .i64 0, .int .i64 0, .int .i64 0, .int .i64 0, .string ⟨#[]⟩, .string ⟨#[]⟩, .slice none 0 0, .slice none 0 0] 25)).alloc (.cells #[.string (s.extract n s.size), .bool false] 78)) ∧ Below w.heap.size w W0 ∧ W0.heap[w.heap.size]? = some (.cells #[.int .i64 0, .int .i64 0, .int .i64 0, .int .i64 0, .int .i64 0, .int .i64 0, .int .i64 0, .string ⟨#[]⟩, .string ⟨#[]⟩, .slice none 0 0, .slice none 0 0] 25 (0, 0)) ∧ IsS78 w W0 (w.heap.size + 1) (s.extract n s.size) false := by
    refine ⟨_, rfl, ?_, ?_, ?_, ?_⟩
    · exact ((Below.refl _ _).alloc (Nat.le_refl _) _).alloc (by simp) _
    · exact blk_below (heap_alloc_new w _) ((Below.refl _ _).alloc (Nat.le_refl _) _)
    · have h := heap_alloc_new (w.alloc (.cells #[.int .i64 0, .int .i64 0, .int .i64 0, .int .i64 0, .int .i64 0, .int .i64 0, .int .i64 0, .string ⟨#[]⟩, .string ⟨#[]⟩, .slice none 0 0, .slice none 0 0] 25)) (.cells #[.string (s.extract n s.size), .bool false] 78)
      rw [show (w.alloc (.cells #[.int .i64 0, .int .i64 0, .int .i64 0, .int .i64 0, .int .i64 0, .int .i64 0, .int .i64 0, .string ⟨#[]⟩, .string ⟨#[]⟩, .slice none 0 0, .slice none 0 0] 25)).heap.size = w.heap.size + 1 by simp] at h
      exact h
    · show w.heap.size ≤ w.heap.size + 1
      omega
  rw [← hW0]
  clear hW0
  have HB := Aside0.mk HB0; have HZ := Aside0.mk HZ0; have HI := Aside0.mk HI0
  clear HB0 HZ0 HI0
  have HN4 := Aside0.mk (show w.heap.size ≠ w.heap.size + 1 by omega)
  go_upto_region 5 with (go_at_call 34; (with_reducible refine (small_at (w.heap.size + 1) (s.extract n s.size, false) 3 x1 E1.out w _ HI.out HB.out).mono ?_); rintro y_ w1 ⟨rfl, hi_, hb_, hk_⟩; have HZ_n := Aside0.mk (kb_old hk_ HZ.out HN4.out); have HI_n := Aside0.mk (hi_); have HB_n := Aside0.mk (hb_); clear HZ HI HB; have HZ := HZ_n; have HI := HI_n; have HB := HB_n; clear HZ_n HI_n HB_n; clear hi_ hb_ hk_)
  have HO0 := Aside0.mk (heap_alloc_new w1 (.cells #[.int .i64 3, .int .i64 0, .int .i64 0, .int .i64 0, .int .i64 0, .int .i64 0, .int .i64 0, .string ⟨#[]⟩, .string ⟨#[]⟩, .slice none 0 0, .slice none 0 0] 25))
  have hb_ := (Below.refl w1.heap.size w1).alloc (Nat.le_refl _) (.cells #[.int .i64 3, .int .i64 0, .int .i64 0, .int .i64 0, .int .i64 0, .int .i64 0, .int .i64 0, .string ⟨#[]⟩, .string ⟨#[]⟩, .slice none 0 0, .slice none 0 0] 25)
  have HI1 := HI
  have HZ_n := Aside0.mk (blk_below HZ.out hb_)
  have HB_n := Aside0.mk (HB.out.trans (hb_.mono HB.out.size))
  clear HZ HB
  have HZ := HZ_n
  have HB := HB_n
  clear HZ_n HB_n
  have HI_n := Aside0.mk (HI.out.below hb_)
  clear HI
  have HI := HI_n
  clear HI_n
  have HN8 := Aside0.mk (show w1.heap.size ≠ w.heap.size + 1 from Nat.ne_of_gt HI1.out.lt)
  have HN48 := Aside0.mk (show w.heap.size ≠ w1.heap.size from Nat.ne_of_lt (by have := HI1.out.lt; omega))
  have H8 := Aside0.mk (show w.heap.size ≤ w1.heap.size by have := HI1.out.lt; omega)
  have H8g := Aside0.mk (show w.heap.size + 1 < w1.heap.size from HI1.out.lt)
  clear hb_ HI1
  generalize w1.alloc (.cells #[.int .i64 3, .int .i64 0, .int .i64 0, .int .i64 0, .int .i64 0, .int .i64 0, .int .i64 0, .string ⟨#[]⟩, .string ⟨#[]⟩, .slice none 0 0, .slice none 0 0] 25) = u1 at *
  have HO := HO0; clear HO0
  generalize w1.heap.size = o8 at *
  have k0 : u1.cell? ⟨o8, 0, none⟩ = some (.int .i64 3) := blk_cell HO.out 0
  go_upto_region 10 with (fail)
  obtain ⟨t_, x2, e_⟩ : ∃ v_ y_, fourI x1 = (v_, y_) := ⟨_, _, rfl⟩
  have E2 := Aside0.mk e_
  have HX2 := Aside0.mk (show x2.1.size ≤ 1000000 by have h := fourI_le x1; rw [e_] at h; exact Nat.le_trans h HX1.out)
  clear e_
  go_upto_region 11 with (go_at_call 35; (with_reducible refine (four_at (w.heap.size + 1) x1 t_ x2 E2.out w _ HI.out HB.out).mono ?_); rintro y_ w2 ⟨rfl, hi_, hb_, hk_⟩; have HO_n := Aside0.mk (kb_old hk_ HO.out HN8.out); have HZ_n := Aside0.mk (kb_old hk_ HZ.out HN4.out); have HI_n := Aside0.mk (hi_); have HB_n := Aside0.mk (hb_); clear HO HZ HI HB; have HO := HO_n; have HZ := HZ_n; have HI := HI_n; have HB := HB_n; clear HO_n HZ_n HI_n HB_n; clear hi_ hb_ hk_; have y1 : w2.cell? ⟨o8, 1, none⟩ = some _ := blk_cell HO.out 1; have f1 := blk_frozen HO.out 1)
  have HI_n := Aside0.mk (HI.out.far (p := ⟨o8, 1, none⟩) HN8.out.symm (.int .i64 t_))
  have HB_n := Aside0.mk (HB.out.setCell (p := ⟨o8, 1, none⟩) H8.out (.int .i64 t_))
  have HZ_n := Aside0.mk (keep_set HZ.out HN48.out 1 (.int .i64 t_))
  have HO_n := Aside0.mk (show (w2.setCell ⟨o8, 1, none⟩ (.int .i64 t_)).heap[o8]? = some (.cells #[.int .i64 3, .int .i64 t_, .int .i64 0, .int .i64 0, .int .i64 0, .int .i64 0, .int .i64 0, .string ⟨#[]⟩, .string ⟨#[]⟩, .slice none 0 0, .slice none 0 0] 25 (0, 0)) from set_blk HO.out 1 (.int .i64 t_))
  clear HI HB HZ HO
  have HI := HI_n
  have HB := HB_n
  have HZ := HZ_n
  have HO := HO_n
  clear HI_n HB_n HZ_n HO_n
  clear y1 f1
  generalize w2.setCell ⟨o8, 1, none⟩ (.int .i64 t_) = u2 at *
  (try clear k0)
  have k0 : u2.cell? ⟨o8, 0, none⟩ = some (.int .i64 3) := blk_cell HO.out 0
  obtain ⟨v_, x3, e_⟩ : ∃ v_ y_, fourI x2 = (v_, y_) := ⟨_, _, rfl⟩
  have E3 := Aside0.mk e_
  have HX3 := Aside0.mk (show x3.1.size ≤ 1000000 by have h := fourI_le x2; rw [e_] at h; exact Nat.le_trans h HX2.out)
  clear e_
  go_upto_region 12 with (go_at_call 35; (with_reducible refine (four_at (w.heap.size + 1) x2 v_ x3 E3.out w _ HI.out HB.out).mono ?_); rintro y_ w3 ⟨rfl, hi_, hb_, hk_⟩; have HO_n := Aside0.mk (kb_old hk_ HO.out HN8.out); have HZ_n := Aside0.mk (kb_old hk_ HZ.out HN4.out); have HI_n := Aside0.mk (hi_); have HB_n := Aside0.mk (hb_); clear HO HZ HI HB; have HO := HO_n; have HZ := HZ_n; have HI := HI_n; have HB := HB_n; clear HO_n HZ_n HI_n HB_n; clear hi_ hb_ hk_; have y4 : w3.cell? ⟨o8, 4, none⟩ = some _ := blk_cell HO.out 4; have f4 := blk_frozen HO.out 4)
  have HI_n := Aside0.mk (HI.out.far (p := ⟨o8, 4, none⟩) HN8.out.symm (.int .i64 v_))
  have HB_n := Aside0.mk (HB.out.setCell (p := ⟨o8, 4, none⟩) H8.out (.int .i64 v_))
  have HZ_n := Aside0.mk (keep_set HZ.out HN48.out 4 (.int .i64 v_))
  have HO_n := Aside0.mk (show (w3.setCell ⟨o8, 4, none⟩ (.int .i64 v_)).heap[o8]? = some (.cells #[.int .i64 3, .int .i64 t_, .int .i64 0, .int .i64 0, .int .i64 v_, .int .i64 0, .int .i64 0, .string ⟨#[]⟩, .string ⟨#[]⟩, .slice none 0 0, .slice none 0 0] 25 (0, 0)) from set_blk HO.out 4 (.int .i64 v_))
  clear HI HB HZ HO
  have HI := HI_n
  have HB := HB_n
  have HZ := HZ_n
  have HO := HO_n
  clear HI_n HB_n HZ_n HO_n
  clear y4 f4
  generalize w3.setCell ⟨o8, 4, none⟩ (.int .i64 v_) = u3 at *
  (try clear k0)
  have k0 : u3.cell? ⟨o8, 0, none⟩ = some (.int .i64 3) := blk_cell HO.out 0
  go_upto_region 38 with (fail)
  clear k0
  obtain ⟨r, hr⟩ : ∃ r : S25, r = ⟨3, t_, 0, 0, v_, 0, 0, ⟨#[]⟩, ⟨#[]⟩, [], []⟩ := ⟨_, rfl⟩
  have HRC := Aside0.mk (show recI (s.extract n s.size, false) = (r, x3) by rw [hr, HREC.out]; unfold recI3; simp only [E2.out, E3.out])
  have R9 := Aside0.mk (show Kd.R k66 66 u3 w.heap.size (fun _ => True) (.slice none r.f9.length 0) r.f9 by rw [hr]; exact Kd.R_nil _ _ _ _ _)
  have R10 := Aside0.mk (show Kd.R k68 68 u3 w.heap.size (fun _ => True) (.slice none r.f10.length 0) r.f10 by rw [hr]; exact Kd.R_nil _ _ _ _ _)
  have HL9 := Aside0.mk (show r.f9.length ≤ 1000000 by rw [hr]; exact Nat.zero_le _)
  have HL10 := Aside0.mk (show r.f10.length ≤ 1000000 by rw [hr]; exact Nat.zero_le _)
  have HOr := Aside0.mk (show u3.heap[o8]? = some (.cells #[.int .i64 r.f0, .int .i64 r.f1, .int .i64 r.f2, .int .i64 r.f3, .int .i64 r.f4, .int .i64 r.f5, .int .i64 r.f6, .string r.f7, .string r.f8, .slice none r.f9.length 0, .slice none r.f10.length 0] 25 (0, 0)) by rw [hr]; exact HO.out)
  clear HO hr
  obtain ⟨q0, q1, q2, q3, q4, q5, q6, q7, q8, q9, q10⟩ := cells11 u3 o8 HOr.out
  obtain ⟨z0, f0, z1, f1, z2, f2, z3, f3, z4, f4, z5, f5, z6, f6, z7, f7, z8, f8, z9, f9, z10, f10⟩ := cellsF11 u3 (w.heap.size) HZ.out
  cases hbad : x3.2 with
  | true =>
    have gb : u3.cell? ⟨w.heap.size + 1, 1, none⟩ = some (.bool true) := by have := cellS78_1 HI.out.1; rw [hbad] at this; exact this
    have HRF := Aside0.mk (show rreadF s (n : Int) = (Rp.zR, 0, 3) by rw [HRF0.out, HRC.out]; rw [if_pos (.inl hbad)])
    clear hbad
    go_wp2
    refine bodyPost_ret (v := .tuple #[.agg #[.int .i64 0, .int .i64 0, .int .i64 0, .int .i64 0, .int .i64 0, .int .i64 0, .int .i64 0, .string ⟨#[]⟩, .string ⟨#[]⟩, .slice none 0 0, .slice none 0 0], .int .i64 0, .int .i64 3]) (by simp [results, Try.results19, go_sem, z0, z1, z2, z3, z4, z5, z6, z7, z8, z9, z10]) rfl ?_
    show AfterRR s _ w _ _
    unfold AfterRR
    rw [HRF.out]
    refine ⟨_, _, rfl, Kd.R_nil _ _ _ _ _, Kd.R_nil _ _ _ _ _, ?_⟩
    repeat (first | (with_reducible refine below_at ?_ _ _) | (with_reducible exact HB.out))
  | false =>
  have gb : u3.cell? ⟨w.heap.size + 1, 1, none⟩ = some (.bool false) := by have := cellS78_1 HI.out.1; rw [hbad] at this; exact this
  have HBD := Aside0.mk hbad
  clear hbad
  obtain ⟨Ax_, cx_, e_, l9_, g9_⟩ := Kd.R_reads R9.out
  injection e_ with ea_ _ ec_
  obtain ⟨Bx_, dx_, e2_, l10_, g10_⟩ := Kd.R_reads R10.out
  injection e2_ with eb_ _ ed_
  rw [← ea_] at g9_
  rw [← ec_] at l9_
  rw [← eb_] at g10_
  rw [← ed_] at l10_
  have C9 := Aside0.mk g9_; have L9_ := Aside0.mk l9_; have C10 := Aside0.mk g10_; have L10_ := Aside0.mk l10_
  clear ea_ ec_ eb_ ed_ l9_ g9_ l10_ g10_
  cases hmb : mayB r with
  | false =>
    have HMB := Aside0.mk hmb
    have HRF := Aside0.mk (show rreadF s (n : Int) = (Rp.zR, 0, 3) by rw [HRF0.out, HRC.out]; rw [if_pos (.inr hmb)])
    clear hmb
    go_wp2_with (go_at_call 14; (with_reducible refine (may_calls r none 0 none 0 _ C9.out L9_.out C10.out L10_.out HL9.out HL10.out).mono ?_); rintro y_ v9_ ⟨rfl, hb_⟩; rw [HMB.out]; have HI_n := Aside0.mk (HI.out.below hb_); have HZ_n := Aside0.mk (blk_below HZ.out hb_); have HOr_n := Aside0.mk (blk_below HOr.out hb_); have R9_n := Aside0.mk (Kd.R_below R9.out hb_); have R10_n := Aside0.mk (Kd.R_below R10.out hb_); have HB_n := Aside0.mk (HB.out.trans (hb_.mono HB.out.size)); clear HI HZ HOr R9 R10 HB; have HI := HI_n; have HZ := HZ_n; have HOr := HOr_n; have R9 := R9_n; have R10 := R10_n; have HB := HB_n; clear HI_n HZ_n HOr_n R9_n R10_n HB_n; clear hb_ q0 z0 f0 q1 z1 f1 q2 z2 f2 q3 z3 f3 q4 z4 f4 q5 z5 f5 q6 z6 f6 q7 z7 f7 q8 z8 f8 q9 z9 f9 q10 z10 f10; obtain ⟨z0, f0, z1, f1, z2, f2, z3, f3, z4, f4, z5, f5, z6, f6, z7, f7, z8, f8, z9, f9, z10, f10⟩ := cellsF11 v9_ (w.heap.size) HZ.out)
    refine bodyPost_ret (v := .tuple #[.agg #[.int .i64 0, .int .i64 0, .int .i64 0, .int .i64 0, .int .i64 0, .int .i64 0, .int .i64 0, .string ⟨#[]⟩, .string ⟨#[]⟩, .slice none 0 0, .slice none 0 0], .int .i64 0, .int .i64 3]) (by simp [results, Try.results19, go_sem, z0, z1, z2, z3, z4, z5, z6, z7, z8, z9, z10]) rfl ?_
    show AfterRR s _ w _ _
    unfold AfterRR
    rw [HRF.out]
    refine ⟨_, _, rfl, Kd.R_nil _ _ _ _ _, Kd.R_nil _ _ _ _ _, ?_⟩
    repeat (first | (with_reducible refine below_at ?_ _ _) | (with_reducible exact HB.out))
  | true =>
  have HMB := Aside0.mk hmb
  have HRF := Aside0.mk (show rreadF s (n : Int) = (r, (s.size : Int) - (x3.1.size : Int), 0) by rw [HRF0.out, HRC.out]; rw [if_neg (by rw [HBD.out, hmb]; simp)])
  clear hmb
  go_upto_region 40 with (go_at_call 14; (with_reducible refine (may_calls r none 0 none 0 _ C9.out L9_.out C10.out L10_.out HL9.out HL10.out).mono ?_); rintro y_ v9_ ⟨rfl, hb_⟩; rw [HMB.out]; have HI_n := Aside0.mk (HI.out.below hb_); have HZ_n := Aside0.mk (blk_below HZ.out hb_); have HOr_n := Aside0.mk (blk_below HOr.out hb_); have R9_n := Aside0.mk (Kd.R_below R9.out hb_); have R10_n := Aside0.mk (Kd.R_below R10.out hb_); have HB_n := Aside0.mk (HB.out.trans (hb_.mono HB.out.size)); clear HI HZ HOr R9 R10 HB; have HI := HI_n; have HZ := HZ_n; have HOr := HOr_n; have R9 := R9_n; have R10 := R10_n; have HB := HB_n; clear HI_n HZ_n HOr_n R9_n R10_n HB_n; clear hb_ q0 z0 f0 q1 z1 f1 q2 z2 f2 q3 z3 f3 q4 z4 f4 q5 z5 f5 q6 z6 f6 q7 z7 f7 q8 z8 f8 q9 z9 f9 q10 z10 f10; obtain ⟨z0, f0, z1, f1, z2, f2, z3, f3, z4, f4, z5, f5, z6, f6, z7, f7, z8, f8, z9, f9, z10, f10⟩ := cellsF11 v9_ (w.heap.size) HZ.out)
  have hw1 : wrap64 ((s.size : Int) - (x3.1.size : Int)) = (s.size : Int) - (x3.1.size : Int) := by have := HS.out; have := HX3.out; unfold wrap64; omega
  have hw2 : IntKind.i64.wrap ((s.size : Int) - (x3.1.size : Int)) = (s.size : Int) - (x3.1.size : Int) := IntWalk.i64_in _ (by have := HS.out; have := HX3.out; omega)
  obtain ⟨q0, q1, q2, q3, q4, q5, q6, q7, q8, q9, q10⟩ := cells11 v9_.drew o8 HOr.out
  have qs : v9_.drew.cell? ⟨w.heap.size + 1, 0, none⟩ = some (.string x3.1) := cellS78_0 (W := v9_.drew) HI.out.1
  refine start_ (n := 12) (S := fun w' => w'.cell? ⟨o8, 0, none⟩ = some (.int .i64 r.f0) ∧ w'.cell? ⟨o8, 1, none⟩ = some (.int .i64 r.f1) ∧ w'.cell? ⟨o8, 2, none⟩ = some (.int .i64 r.f2) ∧ w'.cell? ⟨o8, 3, none⟩ = some (.int .i64 r.f3) ∧ w'.cell? ⟨o8, 4, none⟩ = some (.int .i64 r.f4) ∧ w'.cell? ⟨o8, 5, none⟩ = some (.int .i64 r.f5) ∧ w'.cell? ⟨o8, 6, none⟩ = some (.int .i64 r.f6) ∧ w'.cell? ⟨o8, 7, none⟩ = some (.string r.f7) ∧ w'.cell? ⟨o8, 8, none⟩ = some (.string r.f8) ∧ w'.cell? ⟨o8, 9, none⟩ = some (.slice none r.f9.length 0) ∧ w'.cell? ⟨o8, 10, none⟩ = some (.slice none r.f10.length 0) ∧ w'.cell? ⟨w.heap.size + 1, 0, none⟩ = some (.string x3.1)) (ds := []) #[false, false, false, false, false, false, false, false, false, false, false, false] (by kernel_rfl) rfl rfl ⟨q0, q1, q2, q3, q4, q5, q6, q7, q8, q9, q10, qs⟩ (fun hHeld => ?_)
  refine rgp 1 144 ?_
  refine rgp 2 145 ?_
  refine rgp 3 146 ?_
  refine rgp 4 147 ?_
  refine rgp 5 148 ?_
  refine rgt 0 143 hHeld ?_
  refine rgt 6 149 hHeld ?_
  refine rgp 7 150 ?_
  refine rgp 8 151 ?_
  refine one_ (i := 9) (N := none) #[true, true, true, true, true, true, true, true, true, true, false, false] rfl rfl (by kernel_rfl) (by decide) (fun K hK => ?_)
  have HI_n := Aside0.mk (IsS78.drew HI.out)
  have HZ_n := Aside0.mk (show v9_.drew.heap[w.heap.size]? = some (.cells #[.int .i64 0, .int .i64 0, .int .i64 0, .int .i64 0, .int .i64 0, .int .i64 0, .int .i64 0, .string ⟨#[]⟩, .string ⟨#[]⟩, .slice none 0 0, .slice none 0 0] 25 (0, 0)) from HZ.out)
  have HOr_n := Aside0.mk (show v9_.drew.heap[o8]? = some (.cells #[.int .i64 r.f0, .int .i64 r.f1, .int .i64 r.f2, .int .i64 r.f3, .int .i64 r.f4, .int .i64 r.f5, .int .i64 r.f6, .string r.f7, .string r.f8, .slice none r.f9.length 0, .slice none r.f10.length 0] 25 (0, 0)) from HOr.out)
  have R9_n := Aside0.mk (Kd.R_drew R9.out)
  have R10_n := Aside0.mk (Kd.R_drew R10.out)
  have HB_n := Aside0.mk (HB.out.trans (((Below.refl v9_.heap.size v9_).drew).mono HB.out.size))
  clear HI HZ HOr R9 R10 HB
  have HI := HI_n
  have HZ := HZ_n
  have HOr := HOr_n
  have R9 := R9_n
  have R10 := R10_n
  have HB := HB_n
  clear HI_n HZ_n HOr_n R9_n R10_n HB_n
  clear z0 f0 z1 f1 z2 f2 z3 f3 z4 f4 z5 f5 z6 f6 z7 f7 z8 f8 z9 f9 z10 f10
  generalize v9_.drew = X0_ at *
  obtain ⟨z0, f0, z1, f1, z2, f2, z3, f3, z4, f4, z5, f5, z6, f6, z7, f7, z8, f8, z9, f9, z10, f10⟩ := cellsF11 X0_ (w.heap.size) HZ.out
  refine skip_ (w1 := ?_) (by kernel_rfl) rfl ?_ ?_
  rotate_left
  · go_simp
    rfl
  have hn8_ : o8 ≠ w.heap.size := HN48.out.symm
  have hng_ : w.heap.size + 1 ≠ w.heap.size := by omega
  have HI_n := Aside0.mk (show IsS78 w (((((((((((X0_.setCell ⟨w.heap.size, 0, none⟩ (.int .i64 r.f0)).setCell ⟨w.heap.size, 1, none⟩ (.int .i64 r.f1)).setCell ⟨w.heap.size, 2, none⟩ (.int .i64 r.f2)).setCell ⟨w.heap.size, 3, none⟩ (.int .i64 r.f3)).setCell ⟨w.heap.size, 4, none⟩ (.int .i64 r.f4)).setCell ⟨w.heap.size, 5, none⟩ (.int .i64 r.f5)).setCell ⟨w.heap.size, 6, none⟩ (.int .i64 r.f6)).setCell ⟨w.heap.size, 7, none⟩ (.string r.f7)).setCell ⟨w.heap.size, 8, none⟩ (.string r.f8)).setCell ⟨w.heap.size, 9, none⟩ (.slice none r.f9.length 0)).setCell ⟨w.heap.size, 10, none⟩ (.slice none r.f10.length 0)) (w.heap.size + 1) x3.1 x3.2 from ⟨keep11 HI.out.1 hng_ (.int .i64 r.f0) (.int .i64 r.f1) (.int .i64 r.f2) (.int .i64 r.f3) (.int .i64 r.f4) (.int .i64 r.f5) (.int .i64 r.f6) (.string r.f7) (.string r.f8) (.slice none r.f9.length 0) (.slice none r.f10.length 0), HI.out.2⟩)
  have R9_n := Aside0.mk (R11 R9.out ⟨_, HZ.out⟩ (by decide) (.int .i64 r.f0) (.int .i64 r.f1) (.int .i64 r.f2) (.int .i64 r.f3) (.int .i64 r.f4) (.int .i64 r.f5) (.int .i64 r.f6) (.string r.f7) (.string r.f8) (.slice none r.f9.length 0) (.slice none r.f10.length 0))
  have R10_n := Aside0.mk (R11 R10.out ⟨_, HZ.out⟩ (by decide) (.int .i64 r.f0) (.int .i64 r.f1) (.int .i64 r.f2) (.int .i64 r.f3) (.int .i64 r.f4) (.int .i64 r.f5) (.int .i64 r.f6) (.string r.f7) (.string r.f8) (.slice none r.f9.length 0) (.slice none r.f10.length 0))
  have HOr_n := Aside0.mk (keep11 HOr.out hn8_ (.int .i64 r.f0) (.int .i64 r.f1) (.int .i64 r.f2) (.int .i64 r.f3) (.int .i64 r.f4) (.int .i64 r.f5) (.int .i64 r.f6) (.string r.f7) (.string r.f8) (.slice none r.f9.length 0) (.slice none r.f10.length 0))
  have HB_n := Aside0.mk (below11 HB.out (.int .i64 r.f0) (.int .i64 r.f1) (.int .i64 r.f2) (.int .i64 r.f3) (.int .i64 r.f4) (.int .i64 r.f5) (.int .i64 r.f6) (.string r.f7) (.string r.f8) (.slice none r.f9.length 0) (.slice none r.f10.length 0))
  clear HI R9 R10 HOr HB
  have HI := HI_n
  have R9 := R9_n
  have R10 := R10_n
  have HOr := HOr_n
  have HB := HB_n
  clear HI_n R9_n R10_n HOr_n HB_n
  have HZ_n := Aside0.mk (put11 HZ.out (.int .i64 r.f0) (.int .i64 r.f1) (.int .i64 r.f2) (.int .i64 r.f3) (.int .i64 r.f4) (.int .i64 r.f5) (.int .i64 r.f6) (.string r.f7) (.string r.f8) (.slice none r.f9.length 0) (.slice none r.f10.length 0))
  clear HZ hn8_ hng_ z0 f0 z1 f1 z2 f2 z3 f3 z4 f4 z5 f5 z6 f6 z7 f7 z8 f8 z9 f9 z10 f10
  have HZ := HZ_n
  clear HZ_n
  generalize ((((((((((X0_.setCell ⟨w.heap.size, 0, none⟩ (.int .i64 r.f0)).setCell ⟨w.heap.size, 1, none⟩ (.int .i64 r.f1)).setCell ⟨w.heap.size, 2, none⟩ (.int .i64 r.f2)).setCell ⟨w.heap.size, 3, none⟩ (.int .i64 r.f3)).setCell ⟨w.heap.size, 4, none⟩ (.int .i64 r.f4)).setCell ⟨w.heap.size, 5, none⟩ (.int .i64 r.f5)).setCell ⟨w.heap.size, 6, none⟩ (.int .i64 r.f6)).setCell ⟨w.heap.size, 7, none⟩ (.string r.f7)).setCell ⟨w.heap.size, 8, none⟩ (.string r.f8)).setCell ⟨w.heap.size, 9, none⟩ (.slice none r.f9.length 0)).setCell ⟨w.heap.size, 10, none⟩ (.slice none r.f10.length 0) = X1_ at *
  refine hK _ _ ⟨blk_cell HOr.out 0, blk_cell HOr.out 1, blk_cell HOr.out 2, blk_cell HOr.out 3, blk_cell HOr.out 4, blk_cell HOr.out 5, blk_cell HOr.out 6, blk_cell HOr.out 7, blk_cell HOr.out 8, blk_cell HOr.out 9, blk_cell HOr.out 10, cellS78_0 HI.out.1⟩ (fun hHeld => ?_)
  clear hK K
  refine rgp 10 5 ?_
  refine rgp 11 6 ?_
  refine done_ (by kernel_rfl) ?_
  simp only [Exit.then]
  obtain ⟨z0, z1, z2, z3, z4, z5, z6, z7, z8, z9, z10⟩ := cells11 X1_ (w.heap.size) HZ.out
  go_wp2
  refine bodyPost_ret (v := .tuple #[.agg #[.int .i64 r.f0, .int .i64 r.f1, .int .i64 r.f2, .int .i64 r.f3, .int .i64 r.f4, .int .i64 r.f5, .int .i64 r.f6, .string r.f7, .string r.f8, .slice none r.f9.length 0, .slice none r.f10.length 0], .int .i64 ((s.size : Int) - (x3.1.size : Int)), .int .i64 0]) (by simp [results, Try.results19, go_sem, z0, z1, z2, z3, z4, z5, z6, z7, z8, z9, z10]) rfl ?_
  show AfterRR s _ w _ _
  unfold AfterRR
  rw [HRF.out]
  exact ⟨_, _, rfl, R9.out, R10.out, HB.out⟩
set_option maxHeartbeats 8000000 in
set_option maxRecDepth 100000 in
theorem rr_four (s : ByteArray) (n : Nat) (x1 : St) (w : World) (hs : s.size ≤ 1000000) (hn : n ≤ s.size) (h0 : smallI (s.extract n s.size, false) = (4, x1)) : Calls Try.prog 19 #[.string s, .int .i64 (n : Int)] w fun x w' => AfterRR s (n : Int) w x w' := by
  have HS := Aside0.mk hs
  have HREC := Aside0.mk (show recI (s.extract n s.size, false) = recI3 4 x1 by unfold recI; rw [h0]; simp only; rw [if_neg (by decide), if_neg (by decide), if_pos (by decide)])
  have HX1 := Aside0.mk (show x1.1.size ≤ 1000000 by have h := smallI_le (s.extract n s.size, false); rw [h0] at h; rw [ByteArray.size_extract] at h; have h2 : x1.1.size ≤ min s.size s.size - n := h; omega)
  have HRF0 := Aside0.mk (show rreadF s (n : Int) = (if (recI (s.extract n s.size, false)).2.2 = true ∨ mayB (recI (s.extract n s.size, false)).1 = false then (Rp.zR, 0, 3) else ((recI (s.extract n s.size, false)).1, (s.size : Int) - ((recI (s.extract n s.size, false)).2.1.size : Int), 0)) by unfold rreadF; rw [if_neg (by omega), Int.toNat_natCast])
  have E1 := Aside0.mk h0
  have t1 : decide ((n : Int) < 0) = false := decide_eq_false (by omega)
  have t2 : decide ((s.size : Int) < (n : Int)) = false := decide_eq_false (by omega)
  have t3 : decide (s.size < n) = false := decide_eq_false (by omega)
  have b1 : (0 : Int) ≤ (n : Int) := by omega
  have b2 : (n : Int) ≤ (s.size : Int) := by omega
  clear hs hn h0
  go_enter Try.func19, Try.ntmps19
  go_upto_region 4 with (fail)
  clear t1 t2 t3 b1 b2
  obtain ⟨W0, hW0, HB0, HZ0, HI0⟩ : ∃ W0, W0 = ((w.alloc (.cells #[.int .i64 0, .int .i64 0, .int .i64 0, .int .i64 0, .int .i64 0, .int .i64 0, .int .i64 0, .string ⟨#[]⟩, .string ⟨#[]⟩, .slice none 0 0, .slice none 0 0] 25)).alloc (.cells #[.string (s.extract n s.size), .bool false] 78)) ∧ Below w.heap.size w W0 ∧ W0.heap[w.heap.size]? = some (.cells #[.int .i64 0, .int .i64 0, .int .i64 0, .int .i64 0, .int .i64 0, .int .i64 0, .int .i64 0, .string ⟨#[]⟩, .string ⟨#[]⟩, .slice none 0 0, .slice none 0 0] 25 (0, 0)) ∧ IsS78 w W0 (w.heap.size + 1) (s.extract n s.size) false := by
    refine ⟨_, rfl, ?_, ?_, ?_, ?_⟩
    · exact ((Below.refl _ _).alloc (Nat.le_refl _) _).alloc (by simp) _
    · exact blk_below (heap_alloc_new w _) ((Below.refl _ _).alloc (Nat.le_refl _) _)
    · have h := heap_alloc_new (w.alloc (.cells #[.int .i64 0, .int .i64 0, .int .i64 0, .int .i64 0, .int .i64 0, .int .i64 0, .int .i64 0, .string ⟨#[]⟩, .string ⟨#[]⟩, .slice none 0 0, .slice none 0 0] 25)) (.cells #[.string (s.extract n s.size), .bool false] 78)
      rw [show (w.alloc (.cells #[.int .i64 0, .int .i64 0, .int .i64 0, .int .i64 0, .int .i64 0, .int .i64 0, .int .i64 0, .string ⟨#[]⟩, .string ⟨#[]⟩, .slice none 0 0, .slice none 0 0] 25)).heap.size = w.heap.size + 1 by simp] at h
      exact h
    · show w.heap.size ≤ w.heap.size + 1
      omega
  rw [← hW0]
  clear hW0
  have HB := Aside0.mk HB0; have HZ := Aside0.mk HZ0; have HI := Aside0.mk HI0
  clear HB0 HZ0 HI0
  have HN4 := Aside0.mk (show w.heap.size ≠ w.heap.size + 1 by omega)
  go_upto_region 5 with (go_at_call 34; (with_reducible refine (small_at (w.heap.size + 1) (s.extract n s.size, false) 4 x1 E1.out w _ HI.out HB.out).mono ?_); rintro y_ w1 ⟨rfl, hi_, hb_, hk_⟩; have HZ_n := Aside0.mk (kb_old hk_ HZ.out HN4.out); have HI_n := Aside0.mk (hi_); have HB_n := Aside0.mk (hb_); clear HZ HI HB; have HZ := HZ_n; have HI := HI_n; have HB := HB_n; clear HZ_n HI_n HB_n; clear hi_ hb_ hk_)
  have HO0 := Aside0.mk (heap_alloc_new w1 (.cells #[.int .i64 4, .int .i64 0, .int .i64 0, .int .i64 0, .int .i64 0, .int .i64 0, .int .i64 0, .string ⟨#[]⟩, .string ⟨#[]⟩, .slice none 0 0, .slice none 0 0] 25))
  have hb_ := (Below.refl w1.heap.size w1).alloc (Nat.le_refl _) (.cells #[.int .i64 4, .int .i64 0, .int .i64 0, .int .i64 0, .int .i64 0, .int .i64 0, .int .i64 0, .string ⟨#[]⟩, .string ⟨#[]⟩, .slice none 0 0, .slice none 0 0] 25)
  have HI1 := HI
  have HZ_n := Aside0.mk (blk_below HZ.out hb_)
  have HB_n := Aside0.mk (HB.out.trans (hb_.mono HB.out.size))
  clear HZ HB
  have HZ := HZ_n
  have HB := HB_n
  clear HZ_n HB_n
  have HI_n := Aside0.mk (HI.out.below hb_)
  clear HI
  have HI := HI_n
  clear HI_n
  have HN8 := Aside0.mk (show w1.heap.size ≠ w.heap.size + 1 from Nat.ne_of_gt HI1.out.lt)
  have HN48 := Aside0.mk (show w.heap.size ≠ w1.heap.size from Nat.ne_of_lt (by have := HI1.out.lt; omega))
  have H8 := Aside0.mk (show w.heap.size ≤ w1.heap.size by have := HI1.out.lt; omega)
  have H8g := Aside0.mk (show w.heap.size + 1 < w1.heap.size from HI1.out.lt)
  clear hb_ HI1
  generalize w1.alloc (.cells #[.int .i64 4, .int .i64 0, .int .i64 0, .int .i64 0, .int .i64 0, .int .i64 0, .int .i64 0, .string ⟨#[]⟩, .string ⟨#[]⟩, .slice none 0 0, .slice none 0 0] 25) = u1 at *
  have HO := HO0; clear HO0
  generalize w1.heap.size = o8 at *
  have k0 : u1.cell? ⟨o8, 0, none⟩ = some (.int .i64 4) := blk_cell HO.out 0
  go_upto_region 10 with (fail)
  obtain ⟨t_, x2, e_⟩ : ∃ v_ y_, fourI x1 = (v_, y_) := ⟨_, _, rfl⟩
  have E2 := Aside0.mk e_
  have HX2 := Aside0.mk (show x2.1.size ≤ 1000000 by have h := fourI_le x1; rw [e_] at h; exact Nat.le_trans h HX1.out)
  clear e_
  go_upto_region 11 with (go_at_call 35; (with_reducible refine (four_at (w.heap.size + 1) x1 t_ x2 E2.out w _ HI.out HB.out).mono ?_); rintro y_ w2 ⟨rfl, hi_, hb_, hk_⟩; have HO_n := Aside0.mk (kb_old hk_ HO.out HN8.out); have HZ_n := Aside0.mk (kb_old hk_ HZ.out HN4.out); have HI_n := Aside0.mk (hi_); have HB_n := Aside0.mk (hb_); clear HO HZ HI HB; have HO := HO_n; have HZ := HZ_n; have HI := HI_n; have HB := HB_n; clear HO_n HZ_n HI_n HB_n; clear hi_ hb_ hk_; have y1 : w2.cell? ⟨o8, 1, none⟩ = some _ := blk_cell HO.out 1; have f1 := blk_frozen HO.out 1)
  have HI_n := Aside0.mk (HI.out.far (p := ⟨o8, 1, none⟩) HN8.out.symm (.int .i64 t_))
  have HB_n := Aside0.mk (HB.out.setCell (p := ⟨o8, 1, none⟩) H8.out (.int .i64 t_))
  have HZ_n := Aside0.mk (keep_set HZ.out HN48.out 1 (.int .i64 t_))
  have HO_n := Aside0.mk (show (w2.setCell ⟨o8, 1, none⟩ (.int .i64 t_)).heap[o8]? = some (.cells #[.int .i64 4, .int .i64 t_, .int .i64 0, .int .i64 0, .int .i64 0, .int .i64 0, .int .i64 0, .string ⟨#[]⟩, .string ⟨#[]⟩, .slice none 0 0, .slice none 0 0] 25 (0, 0)) from set_blk HO.out 1 (.int .i64 t_))
  clear HI HB HZ HO
  have HI := HI_n
  have HB := HB_n
  have HZ := HZ_n
  have HO := HO_n
  clear HI_n HB_n HZ_n HO_n
  clear y1 f1
  generalize w2.setCell ⟨o8, 1, none⟩ (.int .i64 t_) = u2 at *
  (try clear k0)
  have k0 : u2.cell? ⟨o8, 0, none⟩ = some (.int .i64 4) := blk_cell HO.out 0
  obtain ⟨v_, x3, e_⟩ : ∃ v_ y_, fourI x2 = (v_, y_) := ⟨_, _, rfl⟩
  have E3 := Aside0.mk e_
  have HX3 := Aside0.mk (show x3.1.size ≤ 1000000 by have h := fourI_le x2; rw [e_] at h; exact Nat.le_trans h HX2.out)
  clear e_
  go_upto_region 12 with (go_at_call 35; (with_reducible refine (four_at (w.heap.size + 1) x2 v_ x3 E3.out w _ HI.out HB.out).mono ?_); rintro y_ w3 ⟨rfl, hi_, hb_, hk_⟩; have HO_n := Aside0.mk (kb_old hk_ HO.out HN8.out); have HZ_n := Aside0.mk (kb_old hk_ HZ.out HN4.out); have HI_n := Aside0.mk (hi_); have HB_n := Aside0.mk (hb_); clear HO HZ HI HB; have HO := HO_n; have HZ := HZ_n; have HI := HI_n; have HB := HB_n; clear HO_n HZ_n HI_n HB_n; clear hi_ hb_ hk_; have y4 : w3.cell? ⟨o8, 4, none⟩ = some _ := blk_cell HO.out 4; have f4 := blk_frozen HO.out 4)
  have HI_n := Aside0.mk (HI.out.far (p := ⟨o8, 4, none⟩) HN8.out.symm (.int .i64 v_))
  have HB_n := Aside0.mk (HB.out.setCell (p := ⟨o8, 4, none⟩) H8.out (.int .i64 v_))
  have HZ_n := Aside0.mk (keep_set HZ.out HN48.out 4 (.int .i64 v_))
  have HO_n := Aside0.mk (show (w3.setCell ⟨o8, 4, none⟩ (.int .i64 v_)).heap[o8]? = some (.cells #[.int .i64 4, .int .i64 t_, .int .i64 0, .int .i64 0, .int .i64 v_, .int .i64 0, .int .i64 0, .string ⟨#[]⟩, .string ⟨#[]⟩, .slice none 0 0, .slice none 0 0] 25 (0, 0)) from set_blk HO.out 4 (.int .i64 v_))
  clear HI HB HZ HO
  have HI := HI_n
  have HB := HB_n
  have HZ := HZ_n
  have HO := HO_n
  clear HI_n HB_n HZ_n HO_n
  clear y4 f4
  generalize w3.setCell ⟨o8, 4, none⟩ (.int .i64 v_) = u3 at *
  (try clear k0)
  have k0 : u3.cell? ⟨o8, 0, none⟩ = some (.int .i64 4) := blk_cell HO.out 0
  go_upto_region 38 with (fail)
  clear k0
  obtain ⟨r, hr⟩ : ∃ r : S25, r = ⟨4, t_, 0, 0, v_, 0, 0, ⟨#[]⟩, ⟨#[]⟩, [], []⟩ := ⟨_, rfl⟩
  have HRC := Aside0.mk (show recI (s.extract n s.size, false) = (r, x3) by rw [hr, HREC.out]; unfold recI3; simp only [E2.out, E3.out])
  have R9 := Aside0.mk (show Kd.R k66 66 u3 w.heap.size (fun _ => True) (.slice none r.f9.length 0) r.f9 by rw [hr]; exact Kd.R_nil _ _ _ _ _)
  have R10 := Aside0.mk (show Kd.R k68 68 u3 w.heap.size (fun _ => True) (.slice none r.f10.length 0) r.f10 by rw [hr]; exact Kd.R_nil _ _ _ _ _)
  have HL9 := Aside0.mk (show r.f9.length ≤ 1000000 by rw [hr]; exact Nat.zero_le _)
  have HL10 := Aside0.mk (show r.f10.length ≤ 1000000 by rw [hr]; exact Nat.zero_le _)
  have HOr := Aside0.mk (show u3.heap[o8]? = some (.cells #[.int .i64 r.f0, .int .i64 r.f1, .int .i64 r.f2, .int .i64 r.f3, .int .i64 r.f4, .int .i64 r.f5, .int .i64 r.f6, .string r.f7, .string r.f8, .slice none r.f9.length 0, .slice none r.f10.length 0] 25 (0, 0)) by rw [hr]; exact HO.out)
  clear HO hr
  obtain ⟨q0, q1, q2, q3, q4, q5, q6, q7, q8, q9, q10⟩ := cells11 u3 o8 HOr.out
  obtain ⟨z0, f0, z1, f1, z2, f2, z3, f3, z4, f4, z5, f5, z6, f6, z7, f7, z8, f8, z9, f9, z10, f10⟩ := cellsF11 u3 (w.heap.size) HZ.out
  cases hbad : x3.2 with
  | true =>
    have gb : u3.cell? ⟨w.heap.size + 1, 1, none⟩ = some (.bool true) := by have := cellS78_1 HI.out.1; rw [hbad] at this; exact this
    have HRF := Aside0.mk (show rreadF s (n : Int) = (Rp.zR, 0, 3) by rw [HRF0.out, HRC.out]; rw [if_pos (.inl hbad)])
    clear hbad
    go_wp2
    refine bodyPost_ret (v := .tuple #[.agg #[.int .i64 0, .int .i64 0, .int .i64 0, .int .i64 0, .int .i64 0, .int .i64 0, .int .i64 0, .string ⟨#[]⟩, .string ⟨#[]⟩, .slice none 0 0, .slice none 0 0], .int .i64 0, .int .i64 3]) (by simp [results, Try.results19, go_sem, z0, z1, z2, z3, z4, z5, z6, z7, z8, z9, z10]) rfl ?_
    show AfterRR s _ w _ _
    unfold AfterRR
    rw [HRF.out]
    refine ⟨_, _, rfl, Kd.R_nil _ _ _ _ _, Kd.R_nil _ _ _ _ _, ?_⟩
    repeat (first | (with_reducible refine below_at ?_ _ _) | (with_reducible exact HB.out))
  | false =>
  have gb : u3.cell? ⟨w.heap.size + 1, 1, none⟩ = some (.bool false) := by have := cellS78_1 HI.out.1; rw [hbad] at this; exact this
  have HBD := Aside0.mk hbad
  clear hbad
  obtain ⟨Ax_, cx_, e_, l9_, g9_⟩ := Kd.R_reads R9.out
  injection e_ with ea_ _ ec_
  obtain ⟨Bx_, dx_, e2_, l10_, g10_⟩ := Kd.R_reads R10.out
  injection e2_ with eb_ _ ed_
  rw [← ea_] at g9_
  rw [← ec_] at l9_
  rw [← eb_] at g10_
  rw [← ed_] at l10_
  have C9 := Aside0.mk g9_; have L9_ := Aside0.mk l9_; have C10 := Aside0.mk g10_; have L10_ := Aside0.mk l10_
  clear ea_ ec_ eb_ ed_ l9_ g9_ l10_ g10_
  cases hmb : mayB r with
  | false =>
    have HMB := Aside0.mk hmb
    have HRF := Aside0.mk (show rreadF s (n : Int) = (Rp.zR, 0, 3) by rw [HRF0.out, HRC.out]; rw [if_pos (.inr hmb)])
    clear hmb
    go_wp2_with (go_at_call 14; (with_reducible refine (may_calls r none 0 none 0 _ C9.out L9_.out C10.out L10_.out HL9.out HL10.out).mono ?_); rintro y_ v9_ ⟨rfl, hb_⟩; rw [HMB.out]; have HI_n := Aside0.mk (HI.out.below hb_); have HZ_n := Aside0.mk (blk_below HZ.out hb_); have HOr_n := Aside0.mk (blk_below HOr.out hb_); have R9_n := Aside0.mk (Kd.R_below R9.out hb_); have R10_n := Aside0.mk (Kd.R_below R10.out hb_); have HB_n := Aside0.mk (HB.out.trans (hb_.mono HB.out.size)); clear HI HZ HOr R9 R10 HB; have HI := HI_n; have HZ := HZ_n; have HOr := HOr_n; have R9 := R9_n; have R10 := R10_n; have HB := HB_n; clear HI_n HZ_n HOr_n R9_n R10_n HB_n; clear hb_ q0 z0 f0 q1 z1 f1 q2 z2 f2 q3 z3 f3 q4 z4 f4 q5 z5 f5 q6 z6 f6 q7 z7 f7 q8 z8 f8 q9 z9 f9 q10 z10 f10; obtain ⟨z0, f0, z1, f1, z2, f2, z3, f3, z4, f4, z5, f5, z6, f6, z7, f7, z8, f8, z9, f9, z10, f10⟩ := cellsF11 v9_ (w.heap.size) HZ.out)
    refine bodyPost_ret (v := .tuple #[.agg #[.int .i64 0, .int .i64 0, .int .i64 0, .int .i64 0, .int .i64 0, .int .i64 0, .int .i64 0, .string ⟨#[]⟩, .string ⟨#[]⟩, .slice none 0 0, .slice none 0 0], .int .i64 0, .int .i64 3]) (by simp [results, Try.results19, go_sem, z0, z1, z2, z3, z4, z5, z6, z7, z8, z9, z10]) rfl ?_
    show AfterRR s _ w _ _
    unfold AfterRR
    rw [HRF.out]
    refine ⟨_, _, rfl, Kd.R_nil _ _ _ _ _, Kd.R_nil _ _ _ _ _, ?_⟩
    repeat (first | (with_reducible refine below_at ?_ _ _) | (with_reducible exact HB.out))
  | true =>
  have HMB := Aside0.mk hmb
  have HRF := Aside0.mk (show rreadF s (n : Int) = (r, (s.size : Int) - (x3.1.size : Int), 0) by rw [HRF0.out, HRC.out]; rw [if_neg (by rw [HBD.out, hmb]; simp)])
  clear hmb
  go_upto_region 40 with (go_at_call 14; (with_reducible refine (may_calls r none 0 none 0 _ C9.out L9_.out C10.out L10_.out HL9.out HL10.out).mono ?_); rintro y_ v9_ ⟨rfl, hb_⟩; rw [HMB.out]; have HI_n := Aside0.mk (HI.out.below hb_); have HZ_n := Aside0.mk (blk_below HZ.out hb_); have HOr_n := Aside0.mk (blk_below HOr.out hb_); have R9_n := Aside0.mk (Kd.R_below R9.out hb_); have R10_n := Aside0.mk (Kd.R_below R10.out hb_); have HB_n := Aside0.mk (HB.out.trans (hb_.mono HB.out.size)); clear HI HZ HOr R9 R10 HB; have HI := HI_n; have HZ := HZ_n; have HOr := HOr_n; have R9 := R9_n; have R10 := R10_n; have HB := HB_n; clear HI_n HZ_n HOr_n R9_n R10_n HB_n; clear hb_ q0 z0 f0 q1 z1 f1 q2 z2 f2 q3 z3 f3 q4 z4 f4 q5 z5 f5 q6 z6 f6 q7 z7 f7 q8 z8 f8 q9 z9 f9 q10 z10 f10; obtain ⟨z0, f0, z1, f1, z2, f2, z3, f3, z4, f4, z5, f5, z6, f6, z7, f7, z8, f8, z9, f9, z10, f10⟩ := cellsF11 v9_ (w.heap.size) HZ.out)
  have hw1 : wrap64 ((s.size : Int) - (x3.1.size : Int)) = (s.size : Int) - (x3.1.size : Int) := by have := HS.out; have := HX3.out; unfold wrap64; omega
  have hw2 : IntKind.i64.wrap ((s.size : Int) - (x3.1.size : Int)) = (s.size : Int) - (x3.1.size : Int) := IntWalk.i64_in _ (by have := HS.out; have := HX3.out; omega)
  obtain ⟨q0, q1, q2, q3, q4, q5, q6, q7, q8, q9, q10⟩ := cells11 v9_.drew o8 HOr.out
  have qs : v9_.drew.cell? ⟨w.heap.size + 1, 0, none⟩ = some (.string x3.1) := cellS78_0 (W := v9_.drew) HI.out.1
  refine start_ (n := 12) (S := fun w' => w'.cell? ⟨o8, 0, none⟩ = some (.int .i64 r.f0) ∧ w'.cell? ⟨o8, 1, none⟩ = some (.int .i64 r.f1) ∧ w'.cell? ⟨o8, 2, none⟩ = some (.int .i64 r.f2) ∧ w'.cell? ⟨o8, 3, none⟩ = some (.int .i64 r.f3) ∧ w'.cell? ⟨o8, 4, none⟩ = some (.int .i64 r.f4) ∧ w'.cell? ⟨o8, 5, none⟩ = some (.int .i64 r.f5) ∧ w'.cell? ⟨o8, 6, none⟩ = some (.int .i64 r.f6) ∧ w'.cell? ⟨o8, 7, none⟩ = some (.string r.f7) ∧ w'.cell? ⟨o8, 8, none⟩ = some (.string r.f8) ∧ w'.cell? ⟨o8, 9, none⟩ = some (.slice none r.f9.length 0) ∧ w'.cell? ⟨o8, 10, none⟩ = some (.slice none r.f10.length 0) ∧ w'.cell? ⟨w.heap.size + 1, 0, none⟩ = some (.string x3.1)) (ds := []) #[false, false, false, false, false, false, false, false, false, false, false, false] (by kernel_rfl) rfl rfl ⟨q0, q1, q2, q3, q4, q5, q6, q7, q8, q9, q10, qs⟩ (fun hHeld => ?_)
  refine rgp 1 144 ?_
  refine rgp 2 145 ?_
  refine rgp 3 146 ?_
  refine rgp 4 147 ?_
  refine rgp 5 148 ?_
  refine rgt 0 143 hHeld ?_
  refine rgt 6 149 hHeld ?_
  refine rgp 7 150 ?_
  refine rgp 8 151 ?_
  refine one_ (i := 9) (N := none) #[true, true, true, true, true, true, true, true, true, true, false, false] rfl rfl (by kernel_rfl) (by decide) (fun K hK => ?_)
  have HI_n := Aside0.mk (IsS78.drew HI.out)
  have HZ_n := Aside0.mk (show v9_.drew.heap[w.heap.size]? = some (.cells #[.int .i64 0, .int .i64 0, .int .i64 0, .int .i64 0, .int .i64 0, .int .i64 0, .int .i64 0, .string ⟨#[]⟩, .string ⟨#[]⟩, .slice none 0 0, .slice none 0 0] 25 (0, 0)) from HZ.out)
  have HOr_n := Aside0.mk (show v9_.drew.heap[o8]? = some (.cells #[.int .i64 r.f0, .int .i64 r.f1, .int .i64 r.f2, .int .i64 r.f3, .int .i64 r.f4, .int .i64 r.f5, .int .i64 r.f6, .string r.f7, .string r.f8, .slice none r.f9.length 0, .slice none r.f10.length 0] 25 (0, 0)) from HOr.out)
  have R9_n := Aside0.mk (Kd.R_drew R9.out)
  have R10_n := Aside0.mk (Kd.R_drew R10.out)
  have HB_n := Aside0.mk (HB.out.trans (((Below.refl v9_.heap.size v9_).drew).mono HB.out.size))
  clear HI HZ HOr R9 R10 HB
  have HI := HI_n
  have HZ := HZ_n
  have HOr := HOr_n
  have R9 := R9_n
  have R10 := R10_n
  have HB := HB_n
  clear HI_n HZ_n HOr_n R9_n R10_n HB_n
  clear z0 f0 z1 f1 z2 f2 z3 f3 z4 f4 z5 f5 z6 f6 z7 f7 z8 f8 z9 f9 z10 f10
  generalize v9_.drew = X0_ at *
  obtain ⟨z0, f0, z1, f1, z2, f2, z3, f3, z4, f4, z5, f5, z6, f6, z7, f7, z8, f8, z9, f9, z10, f10⟩ := cellsF11 X0_ (w.heap.size) HZ.out
  refine skip_ (w1 := ?_) (by kernel_rfl) rfl ?_ ?_
  rotate_left
  · go_simp
    rfl
  have hn8_ : o8 ≠ w.heap.size := HN48.out.symm
  have hng_ : w.heap.size + 1 ≠ w.heap.size := by omega
  have HI_n := Aside0.mk (show IsS78 w (((((((((((X0_.setCell ⟨w.heap.size, 0, none⟩ (.int .i64 r.f0)).setCell ⟨w.heap.size, 1, none⟩ (.int .i64 r.f1)).setCell ⟨w.heap.size, 2, none⟩ (.int .i64 r.f2)).setCell ⟨w.heap.size, 3, none⟩ (.int .i64 r.f3)).setCell ⟨w.heap.size, 4, none⟩ (.int .i64 r.f4)).setCell ⟨w.heap.size, 5, none⟩ (.int .i64 r.f5)).setCell ⟨w.heap.size, 6, none⟩ (.int .i64 r.f6)).setCell ⟨w.heap.size, 7, none⟩ (.string r.f7)).setCell ⟨w.heap.size, 8, none⟩ (.string r.f8)).setCell ⟨w.heap.size, 9, none⟩ (.slice none r.f9.length 0)).setCell ⟨w.heap.size, 10, none⟩ (.slice none r.f10.length 0)) (w.heap.size + 1) x3.1 x3.2 from ⟨keep11 HI.out.1 hng_ (.int .i64 r.f0) (.int .i64 r.f1) (.int .i64 r.f2) (.int .i64 r.f3) (.int .i64 r.f4) (.int .i64 r.f5) (.int .i64 r.f6) (.string r.f7) (.string r.f8) (.slice none r.f9.length 0) (.slice none r.f10.length 0), HI.out.2⟩)
  have R9_n := Aside0.mk (R11 R9.out ⟨_, HZ.out⟩ (by decide) (.int .i64 r.f0) (.int .i64 r.f1) (.int .i64 r.f2) (.int .i64 r.f3) (.int .i64 r.f4) (.int .i64 r.f5) (.int .i64 r.f6) (.string r.f7) (.string r.f8) (.slice none r.f9.length 0) (.slice none r.f10.length 0))
  have R10_n := Aside0.mk (R11 R10.out ⟨_, HZ.out⟩ (by decide) (.int .i64 r.f0) (.int .i64 r.f1) (.int .i64 r.f2) (.int .i64 r.f3) (.int .i64 r.f4) (.int .i64 r.f5) (.int .i64 r.f6) (.string r.f7) (.string r.f8) (.slice none r.f9.length 0) (.slice none r.f10.length 0))
  have HOr_n := Aside0.mk (keep11 HOr.out hn8_ (.int .i64 r.f0) (.int .i64 r.f1) (.int .i64 r.f2) (.int .i64 r.f3) (.int .i64 r.f4) (.int .i64 r.f5) (.int .i64 r.f6) (.string r.f7) (.string r.f8) (.slice none r.f9.length 0) (.slice none r.f10.length 0))
  have HB_n := Aside0.mk (below11 HB.out (.int .i64 r.f0) (.int .i64 r.f1) (.int .i64 r.f2) (.int .i64 r.f3) (.int .i64 r.f4) (.int .i64 r.f5) (.int .i64 r.f6) (.string r.f7) (.string r.f8) (.slice none r.f9.length 0) (.slice none r.f10.length 0))
  clear HI R9 R10 HOr HB
  have HI := HI_n
  have R9 := R9_n
  have R10 := R10_n
  have HOr := HOr_n
  have HB := HB_n
  clear HI_n R9_n R10_n HOr_n HB_n
  have HZ_n := Aside0.mk (put11 HZ.out (.int .i64 r.f0) (.int .i64 r.f1) (.int .i64 r.f2) (.int .i64 r.f3) (.int .i64 r.f4) (.int .i64 r.f5) (.int .i64 r.f6) (.string r.f7) (.string r.f8) (.slice none r.f9.length 0) (.slice none r.f10.length 0))
  clear HZ hn8_ hng_ z0 f0 z1 f1 z2 f2 z3 f3 z4 f4 z5 f5 z6 f6 z7 f7 z8 f8 z9 f9 z10 f10
  have HZ := HZ_n
  clear HZ_n
  generalize ((((((((((X0_.setCell ⟨w.heap.size, 0, none⟩ (.int .i64 r.f0)).setCell ⟨w.heap.size, 1, none⟩ (.int .i64 r.f1)).setCell ⟨w.heap.size, 2, none⟩ (.int .i64 r.f2)).setCell ⟨w.heap.size, 3, none⟩ (.int .i64 r.f3)).setCell ⟨w.heap.size, 4, none⟩ (.int .i64 r.f4)).setCell ⟨w.heap.size, 5, none⟩ (.int .i64 r.f5)).setCell ⟨w.heap.size, 6, none⟩ (.int .i64 r.f6)).setCell ⟨w.heap.size, 7, none⟩ (.string r.f7)).setCell ⟨w.heap.size, 8, none⟩ (.string r.f8)).setCell ⟨w.heap.size, 9, none⟩ (.slice none r.f9.length 0)).setCell ⟨w.heap.size, 10, none⟩ (.slice none r.f10.length 0) = X1_ at *
  refine hK _ _ ⟨blk_cell HOr.out 0, blk_cell HOr.out 1, blk_cell HOr.out 2, blk_cell HOr.out 3, blk_cell HOr.out 4, blk_cell HOr.out 5, blk_cell HOr.out 6, blk_cell HOr.out 7, blk_cell HOr.out 8, blk_cell HOr.out 9, blk_cell HOr.out 10, cellS78_0 HI.out.1⟩ (fun hHeld => ?_)
  clear hK K
  refine rgp 10 5 ?_
  refine rgp 11 6 ?_
  refine done_ (by kernel_rfl) ?_
  simp only [Exit.then]
  obtain ⟨z0, z1, z2, z3, z4, z5, z6, z7, z8, z9, z10⟩ := cells11 X1_ (w.heap.size) HZ.out
  go_wp2
  refine bodyPost_ret (v := .tuple #[.agg #[.int .i64 r.f0, .int .i64 r.f1, .int .i64 r.f2, .int .i64 r.f3, .int .i64 r.f4, .int .i64 r.f5, .int .i64 r.f6, .string r.f7, .string r.f8, .slice none r.f9.length 0, .slice none r.f10.length 0], .int .i64 ((s.size : Int) - (x3.1.size : Int)), .int .i64 0]) (by simp [results, Try.results19, go_sem, z0, z1, z2, z3, z4, z5, z6, z7, z8, z9, z10]) rfl ?_
  show AfterRR s _ w _ _
  unfold AfterRR
  rw [HRF.out]
  exact ⟨_, _, rfl, R9.out, R10.out, HB.out⟩
end Go.Proofs.Ytcfknakmamcinaa.Wr
