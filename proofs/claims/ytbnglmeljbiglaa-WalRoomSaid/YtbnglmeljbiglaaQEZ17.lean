import Derived.Test.YtbnglmeljbiglaaQEZ0
import Derived.Test.YtbnglmeljbiglaaQEZ1
import Derived.Test.YtbnglmeljbiglaaQEZ2
import Derived.Test.YtbnglmeljbiglaaQEZ3
import Derived.Test.YtbnglmeljbiglaaQEZ5
import Derived.Test.YtbnglmeljbiglaaQEZ6
import Derived.Test.YtbnglmeljbiglaaQEZ7
import Derived.Test.YtbnglmeljbiglaaQEZ8
import Derived.Test.YtbnglmeljbiglaaQEZ9
import Derived.Test.YtbnglmeljbiglaaQEZ10
import Derived.Test.YtbnglmeljbiglaaQEZ11
import Derived.Test.YtbnglmeljbiglaaQEZ12
import Derived.Test.YtbnglmeljbiglaaQEZ13
set_option maxRecDepth 8192
namespace Go.Proofs.Ytbnglmeljbiglaa.Wr
open Go.Proofs.Ytbnglmeljbiglaa.Rgn
open Go.Proofs.Ytbnglmeljbiglaa.Rp Go.Proofs.Ytbnglmeljbiglaa.X4
open Go Go.RowKit Go.ChangeMaps Go.Proofs.Ytbnglmeljbiglaa.Arr Go.Proofs.Ytbnglmeljbiglaa.Ow Go.Proofs.YtbnglmeljbiglaaW.PrintWords Go.Proofs.YtbnglmeljbiglaaW.PrintLast Go.Proofs.YtbnglmeljbiglaaW.PrintMore
set_option linter.unusedVariables false
set_option linter.unusedSimpArgs false
set_option maxHeartbeats 4000000 in
set_option maxRecDepth 100000 in
theorem may_two (r : S37) (A9 : Option Addr) (c9 : Nat) (A10 : Option Addr) (c10 : Nat) (w : World) (h9 : Kd.C k107 w A9 r.f9.length r.f9) (l9 : r.f9.length ≤ c9) (h10 : Kd.C k109 w A10 r.f10.length r.f10) (l10 : r.f10.length ≤ c10) (s9 : r.f9.length ≤ 1000000) (s10 : r.f10.length ≤ 1000000) (hk : r.f0 = 2) : Calls Try.prog 26 #[aggR r A9 c9 A10 c10] w fun e w' => e = .returned (.bool (mayB r)) ∧ Below w.heap.size w w' := by
  have HK_ := Aside0.mk hk; have HM := Aside0.mk (show mayB r = (decide (1 ≤ r.f1) && ([r.f1, r.f4, r.f5].all isNum && (spotB r && (decide (r = ⟨2, r.f1, r.f2, r.f3, r.f4, r.f5, 0, ⟨#[]⟩, r.f8, [], []⟩))))) by unfold mayB; rw [if_neg (by omega), if_pos hk])
  clear hk
  go_enter Try.func26, Try.ntmps26
  go_upto_region 2 with (fail)
  obtain ⟨W0, hW0, hM⟩ : ∃ W0, W0 = (w.alloc (.cells #[.int .i64 r.f0, .int .i64 r.f1, .int .i64 r.f2, .int .i64 r.f3, .int .i64 r.f4, .int .i64 r.f5, .int .i64 r.f6, .string r.f7, .string r.f8, .slice A9 r.f9.length c9, .slice A10 r.f10.length c10] 37)).alloc (.cells #[.int .i64 r.f0, .int .i64 r.f1, .int .i64 r.f2, .int .i64 r.f3, .int .i64 r.f4, .int .i64 r.f5, .int .i64 r.f6, .string r.f7, .string r.f8, .slice A9 r.f9.length c9, .slice A10 r.f10.length c10] 37) ∧ MY w W0 r A9 c9 A10 c10 := by
    refine ⟨_, rfl, ?_⟩
    have hb := ((Below.refl w.heap.size w).alloc (Nat.le_refl _) (.cells #[.int .i64 r.f0, .int .i64 r.f1, .int .i64 r.f2, .int .i64 r.f3, .int .i64 r.f4, .int .i64 r.f5, .int .i64 r.f6, .string r.f7, .string r.f8, .slice A9 r.f9.length c9, .slice A10 r.f10.length c10] 37)).alloc (by simp) (.cells #[.int .i64 r.f0, .int .i64 r.f1, .int .i64 r.f2, .int .i64 r.f3, .int .i64 r.f4, .int .i64 r.f5, .int .i64 r.f6, .string r.f7, .string r.f8, .slice A9 r.f9.length c9, .slice A10 r.f10.length c10] 37)
    refine ⟨hb, blk_below (heap_alloc_new w _) ((Below.refl _ _).alloc (Nat.le_refl _) _), ?_, Kd.C_below h9 hb, l9, Kd.C_below h10 hb, l10, s9, s10⟩
    have h := heap_alloc_new (w.alloc (.cells #[.int .i64 r.f0, .int .i64 r.f1, .int .i64 r.f2, .int .i64 r.f3, .int .i64 r.f4, .int .i64 r.f5, .int .i64 r.f6, .string r.f7, .string r.f8, .slice A9 r.f9.length c9, .slice A10 r.f10.length c10] 37)) (.cells #[.int .i64 r.f0, .int .i64 r.f1, .int .i64 r.f2, .int .i64 r.f3, .int .i64 r.f4, .int .i64 r.f5, .int .i64 r.f6, .string r.f7, .string r.f8, .slice A9 r.f9.length c9, .slice A10 r.f10.length c10] 37)
    rw [show (w.alloc (.cells #[.int .i64 r.f0, .int .i64 r.f1, .int .i64 r.f2, .int .i64 r.f3, .int .i64 r.f4, .int .i64 r.f5, .int .i64 r.f6, .string r.f7, .string r.f8, .slice A9 r.f9.length c9, .slice A10 r.f10.length c10] 37)).heap.size = w.heap.size + 1 by simp] at h
    exact h
  rw [← hW0]
  have M := Aside0.mk hM
  clear hW0 hM h9 l9 h10 l10 s9 s10
  obtain ⟨q0, q1, q2, q3, q4, q5, q6, q7, q8, q9, q10⟩ := cells11 W0 (w.heap.size) M.out.b0.at
  obtain ⟨p0, p1, p2, p3, p4, p5, p6, p7, p8, p9, p10⟩ := cells11 W0 (w.heap.size + 1) M.out.b1.at
  have t1 : (r.f0 == 1) = false := by rw [beq_eq_false_iff_ne]; have := HK_.out; omega
  have t2 : (r.f0 == 2) = true := by rw [beq_iff_eq]; exact HK_.out
  by_cases ht0 : 1 ≤ r.f1
  rotate_left
  · have HT0 := Aside0.mk (show decide (1 ≤ r.f1) = false from decide_eq_false ht0)
    have c0 : decide (1 ≤ r.f1) = false := decide_eq_false ht0
    clear ht0
    go_wp2
    go_ret
    exact ⟨by rw [HM.out, HT0.out]; rfl, M.out.below⟩
  have HT0 := Aside0.mk (show decide (1 ≤ r.f1) = true from decide_eq_true ht0)
  have c0 : decide (1 ≤ r.f1) = true := decide_eq_true ht0
  clear ht0
  cases ht1 : ([r.f1, r.f4, r.f5].all isNum) with
  | false =>
    have HT1 := Aside0.mk ht1; clear ht1
    go_wp2_with (first | (go_at_call 56; (with_reducible refine (rnum3 r.f1 r.f4 r.f5 _).mono ?_); rintro e v1 ⟨rfl, hb_⟩; rw [HT1.out]; have M_n := Aside0.mk (M.out.alloc _ hb_); clear hb_ M; have M := M_n; clear M_n; clear q0 p0 q1 p1 q2 p2 q3 p3 q4 p4 q5 p5 q6 p6 q7 p7 q8 p8 q9 p9 q10 p10; obtain ⟨q0, q1, q2, q3, q4, q5, q6, q7, q8, q9, q10⟩ := cells11 v1 (w.heap.size) M.out.b0.at; obtain ⟨p0, p1, p2, p3, p4, p5, p6, p7, p8, p9, p10⟩ := cells11 v1 (w.heap.size + 1) M.out.b1.at))
    go_ret
    exact ⟨by rw [HM.out, HT0.out, HT1.out]; rfl, M.out.below⟩
  | true =>
  have HT1 := Aside0.mk ht1; clear ht1
  cases ht2 : (spotB r) with
  | false =>
    have HT2 := Aside0.mk ht2; clear ht2
    go_wp2_with (first | (go_at_call 56; (with_reducible refine (rnum3 r.f1 r.f4 r.f5 _).mono ?_); rintro e v1 ⟨rfl, hb_⟩; rw [HT1.out]; have M_n := Aside0.mk (M.out.alloc _ hb_); clear hb_ M; have M := M_n; clear M_n; clear q0 p0 q1 p1 q2 p2 q3 p3 q4 p4 q5 p5 q6 p6 q7 p7 q8 p8 q9 p9 q10 p10; obtain ⟨q0, q1, q2, q3, q4, q5, q6, q7, q8, q9, q10⟩ := cells11 v1 (w.heap.size) M.out.b0.at; obtain ⟨p0, p1, p2, p3, p4, p5, p6, p7, p8, p9, p10⟩ := cells11 v1 (w.heap.size + 1) M.out.b1.at) | (go_at_call 57; (with_reducible refine (rspot_calls r A9 c9 A10 c10 _ M.out.r9 M.out.l9 M.out.r10 M.out.l10).mono ?_); rintro e v2 ⟨rfl, hb_⟩; rw [HT2.out]; have M_n := Aside0.mk (M.out.next hb_); clear hb_ M; have M := M_n; clear M_n; clear q0 p0 q1 p1 q2 p2 q3 p3 q4 p4 q5 p5 q6 p6 q7 p7 q8 p8 q9 p9 q10 p10; obtain ⟨q0, q1, q2, q3, q4, q5, q6, q7, q8, q9, q10⟩ := cells11 v2 (w.heap.size) M.out.b0.at; obtain ⟨p0, p1, p2, p3, p4, p5, p6, p7, p8, p9, p10⟩ := cells11 v2 (w.heap.size + 1) M.out.b1.at))
    go_ret
    exact ⟨by rw [HM.out, HT0.out, HT1.out, HT2.out]; rfl, M.out.below⟩
  | true =>
  have HT2 := Aside0.mk ht2; clear ht2
  cases ht3 : (decide (r = ⟨2, r.f1, r.f2, r.f3, r.f4, r.f5, 0, ⟨#[]⟩, r.f8, [], []⟩)) with
  | false =>
    have HT3 := Aside0.mk ht3; clear ht3
    go_wp2_with (first | (go_at_call 56; (with_reducible refine (rnum3 r.f1 r.f4 r.f5 _).mono ?_); rintro e v1 ⟨rfl, hb_⟩; rw [HT1.out]; have M_n := Aside0.mk (M.out.alloc _ hb_); clear hb_ M; have M := M_n; clear M_n; clear q0 p0 q1 p1 q2 p2 q3 p3 q4 p4 q5 p5 q6 p6 q7 p7 q8 p8 q9 p9 q10 p10; obtain ⟨q0, q1, q2, q3, q4, q5, q6, q7, q8, q9, q10⟩ := cells11 v1 (w.heap.size) M.out.b0.at; obtain ⟨p0, p1, p2, p3, p4, p5, p6, p7, p8, p9, p10⟩ := cells11 v1 (w.heap.size + 1) M.out.b1.at) | (go_at_call 57; (with_reducible refine (rspot_calls r A9 c9 A10 c10 _ M.out.r9 M.out.l9 M.out.r10 M.out.l10).mono ?_); rintro e v2 ⟨rfl, hb_⟩; rw [HT2.out]; have M_n := Aside0.mk (M.out.next hb_); clear hb_ M; have M := M_n; clear M_n; clear q0 p0 q1 p1 q2 p2 q3 p3 q4 p4 q5 p5 q6 p6 q7 p7 q8 p8 q9 p9 q10 p10; obtain ⟨q0, q1, q2, q3, q4, q5, q6, q7, q8, q9, q10⟩ := cells11 v2 (w.heap.size) M.out.b0.at; obtain ⟨p0, p1, p2, p3, p4, p5, p6, p7, p8, p9, p10⟩ := cells11 v2 (w.heap.size + 1) M.out.b1.at) | (go_at_call 28; (with_reducible refine (M.out.same0 ⟨2, r.f1, r.f2, r.f3, r.f4, r.f5, 0, ⟨#[]⟩, r.f8, [], []⟩ rfl rfl).mono ?_); rintro e v3 ⟨rfl, hb_⟩; rw [HT3.out]; have M_n := Aside0.mk (M.out.next hb_); clear hb_ M; have M := M_n; clear M_n; clear q0 p0 q1 p1 q2 p2 q3 p3 q4 p4 q5 p5 q6 p6 q7 p7 q8 p8 q9 p9 q10 p10; obtain ⟨q0, q1, q2, q3, q4, q5, q6, q7, q8, q9, q10⟩ := cells11 v3 (w.heap.size) M.out.b0.at; obtain ⟨p0, p1, p2, p3, p4, p5, p6, p7, p8, p9, p10⟩ := cells11 v3 (w.heap.size + 1) M.out.b1.at))
    go_ret
    exact ⟨by rw [HM.out, HT0.out, HT1.out, HT2.out, HT3.out]; rfl, M.out.below⟩
  | true =>
  have HT3 := Aside0.mk ht3; clear ht3
  go_wp2_with (first | (go_at_call 56; (with_reducible refine (rnum3 r.f1 r.f4 r.f5 _).mono ?_); rintro e v1 ⟨rfl, hb_⟩; rw [HT1.out]; have M_n := Aside0.mk (M.out.alloc _ hb_); clear hb_ M; have M := M_n; clear M_n; clear q0 p0 q1 p1 q2 p2 q3 p3 q4 p4 q5 p5 q6 p6 q7 p7 q8 p8 q9 p9 q10 p10; obtain ⟨q0, q1, q2, q3, q4, q5, q6, q7, q8, q9, q10⟩ := cells11 v1 (w.heap.size) M.out.b0.at; obtain ⟨p0, p1, p2, p3, p4, p5, p6, p7, p8, p9, p10⟩ := cells11 v1 (w.heap.size + 1) M.out.b1.at) | (go_at_call 57; (with_reducible refine (rspot_calls r A9 c9 A10 c10 _ M.out.r9 M.out.l9 M.out.r10 M.out.l10).mono ?_); rintro e v2 ⟨rfl, hb_⟩; rw [HT2.out]; have M_n := Aside0.mk (M.out.next hb_); clear hb_ M; have M := M_n; clear M_n; clear q0 p0 q1 p1 q2 p2 q3 p3 q4 p4 q5 p5 q6 p6 q7 p7 q8 p8 q9 p9 q10 p10; obtain ⟨q0, q1, q2, q3, q4, q5, q6, q7, q8, q9, q10⟩ := cells11 v2 (w.heap.size) M.out.b0.at; obtain ⟨p0, p1, p2, p3, p4, p5, p6, p7, p8, p9, p10⟩ := cells11 v2 (w.heap.size + 1) M.out.b1.at) | (go_at_call 28; (with_reducible refine (M.out.same0 ⟨2, r.f1, r.f2, r.f3, r.f4, r.f5, 0, ⟨#[]⟩, r.f8, [], []⟩ rfl rfl).mono ?_); rintro e v3 ⟨rfl, hb_⟩; rw [HT3.out]; have M_n := Aside0.mk (M.out.next hb_); clear hb_ M; have M := M_n; clear M_n; clear q0 p0 q1 p1 q2 p2 q3 p3 q4 p4 q5 p5 q6 p6 q7 p7 q8 p8 q9 p9 q10 p10; obtain ⟨q0, q1, q2, q3, q4, q5, q6, q7, q8, q9, q10⟩ := cells11 v3 (w.heap.size) M.out.b0.at; obtain ⟨p0, p1, p2, p3, p4, p5, p6, p7, p8, p9, p10⟩ := cells11 v3 (w.heap.size + 1) M.out.b1.at))
  go_ret
  exact ⟨by rw [HM.out, HT0.out, HT1.out, HT2.out, HT3.out]; rfl, M.out.below⟩
set_option maxHeartbeats 4000000 in
set_option maxRecDepth 100000 in
theorem may_three (r : S37) (A9 : Option Addr) (c9 : Nat) (A10 : Option Addr) (c10 : Nat) (w : World) (h9 : Kd.C k107 w A9 r.f9.length r.f9) (l9 : r.f9.length ≤ c9) (h10 : Kd.C k109 w A10 r.f10.length r.f10) (l10 : r.f10.length ≤ c10) (s9 : r.f9.length ≤ 1000000) (s10 : r.f10.length ≤ 1000000) (hk : r.f0 = 3) : Calls Try.prog 26 #[aggR r A9 c9 A10 c10] w fun e w' => e = .returned (.bool (mayB r)) ∧ Below w.heap.size w w' := by
  have HK_ := Aside0.mk hk; have HM := Aside0.mk (show mayB r = (decide (1 ≤ r.f1) && ([r.f1, r.f4].all isNum && (decide (r = ⟨r.f0, r.f1, 0, 0, r.f4, 0, 0, ⟨#[]⟩, ⟨#[]⟩, [], []⟩)))) by unfold mayB; rw [if_neg (by omega), if_neg (by omega), if_pos (by omega)])
  clear hk
  go_enter Try.func26, Try.ntmps26
  go_upto_region 2 with (fail)
  obtain ⟨W0, hW0, hM⟩ : ∃ W0, W0 = (w.alloc (.cells #[.int .i64 r.f0, .int .i64 r.f1, .int .i64 r.f2, .int .i64 r.f3, .int .i64 r.f4, .int .i64 r.f5, .int .i64 r.f6, .string r.f7, .string r.f8, .slice A9 r.f9.length c9, .slice A10 r.f10.length c10] 37)).alloc (.cells #[.int .i64 r.f0, .int .i64 r.f1, .int .i64 r.f2, .int .i64 r.f3, .int .i64 r.f4, .int .i64 r.f5, .int .i64 r.f6, .string r.f7, .string r.f8, .slice A9 r.f9.length c9, .slice A10 r.f10.length c10] 37) ∧ MY w W0 r A9 c9 A10 c10 := by
    refine ⟨_, rfl, ?_⟩
    have hb := ((Below.refl w.heap.size w).alloc (Nat.le_refl _) (.cells #[.int .i64 r.f0, .int .i64 r.f1, .int .i64 r.f2, .int .i64 r.f3, .int .i64 r.f4, .int .i64 r.f5, .int .i64 r.f6, .string r.f7, .string r.f8, .slice A9 r.f9.length c9, .slice A10 r.f10.length c10] 37)).alloc (by simp) (.cells #[.int .i64 r.f0, .int .i64 r.f1, .int .i64 r.f2, .int .i64 r.f3, .int .i64 r.f4, .int .i64 r.f5, .int .i64 r.f6, .string r.f7, .string r.f8, .slice A9 r.f9.length c9, .slice A10 r.f10.length c10] 37)
    refine ⟨hb, blk_below (heap_alloc_new w _) ((Below.refl _ _).alloc (Nat.le_refl _) _), ?_, Kd.C_below h9 hb, l9, Kd.C_below h10 hb, l10, s9, s10⟩
    have h := heap_alloc_new (w.alloc (.cells #[.int .i64 r.f0, .int .i64 r.f1, .int .i64 r.f2, .int .i64 r.f3, .int .i64 r.f4, .int .i64 r.f5, .int .i64 r.f6, .string r.f7, .string r.f8, .slice A9 r.f9.length c9, .slice A10 r.f10.length c10] 37)) (.cells #[.int .i64 r.f0, .int .i64 r.f1, .int .i64 r.f2, .int .i64 r.f3, .int .i64 r.f4, .int .i64 r.f5, .int .i64 r.f6, .string r.f7, .string r.f8, .slice A9 r.f9.length c9, .slice A10 r.f10.length c10] 37)
    rw [show (w.alloc (.cells #[.int .i64 r.f0, .int .i64 r.f1, .int .i64 r.f2, .int .i64 r.f3, .int .i64 r.f4, .int .i64 r.f5, .int .i64 r.f6, .string r.f7, .string r.f8, .slice A9 r.f9.length c9, .slice A10 r.f10.length c10] 37)).heap.size = w.heap.size + 1 by simp] at h
    exact h
  rw [← hW0]
  have M := Aside0.mk hM
  clear hW0 hM h9 l9 h10 l10 s9 s10
  obtain ⟨q0, q1, q2, q3, q4, q5, q6, q7, q8, q9, q10⟩ := cells11 W0 (w.heap.size) M.out.b0.at
  obtain ⟨p0, p1, p2, p3, p4, p5, p6, p7, p8, p9, p10⟩ := cells11 W0 (w.heap.size + 1) M.out.b1.at
  have t1 : (r.f0 == 1) = false := by rw [beq_eq_false_iff_ne]; have := HK_.out; omega
  have t2 : (r.f0 == 2) = false := by rw [beq_eq_false_iff_ne]; have := HK_.out; omega
  have t3 : (r.f0 == 3) = true := by rw [beq_iff_eq]; exact HK_.out
  by_cases ht0 : 1 ≤ r.f1
  rotate_left
  · have HT0 := Aside0.mk (show decide (1 ≤ r.f1) = false from decide_eq_false ht0)
    have c0 : decide (1 ≤ r.f1) = false := decide_eq_false ht0
    clear ht0
    go_wp2
    go_ret
    exact ⟨by rw [HM.out, HT0.out]; rfl, M.out.below⟩
  have HT0 := Aside0.mk (show decide (1 ≤ r.f1) = true from decide_eq_true ht0)
  have c0 : decide (1 ≤ r.f1) = true := decide_eq_true ht0
  clear ht0
  cases ht1 : ([r.f1, r.f4].all isNum) with
  | false =>
    have HT1 := Aside0.mk ht1; clear ht1
    go_wp2_with (first | (go_at_call 56; (with_reducible refine (rnum2 r.f1 r.f4 _).mono ?_); rintro e v1 ⟨rfl, hb_⟩; rw [HT1.out]; have M_n := Aside0.mk (M.out.alloc _ hb_); clear hb_ M; have M := M_n; clear M_n; clear q0 p0 q1 p1 q2 p2 q3 p3 q4 p4 q5 p5 q6 p6 q7 p7 q8 p8 q9 p9 q10 p10; obtain ⟨q0, q1, q2, q3, q4, q5, q6, q7, q8, q9, q10⟩ := cells11 v1 (w.heap.size) M.out.b0.at; obtain ⟨p0, p1, p2, p3, p4, p5, p6, p7, p8, p9, p10⟩ := cells11 v1 (w.heap.size + 1) M.out.b1.at))
    go_ret
    exact ⟨by rw [HM.out, HT0.out, HT1.out]; rfl, M.out.below⟩
  | true =>
  have HT1 := Aside0.mk ht1; clear ht1
  cases ht2 : (decide (r = ⟨r.f0, r.f1, 0, 0, r.f4, 0, 0, ⟨#[]⟩, ⟨#[]⟩, [], []⟩)) with
  | false =>
    have HT2 := Aside0.mk ht2; clear ht2
    go_wp2_with (first | (go_at_call 56; (with_reducible refine (rnum2 r.f1 r.f4 _).mono ?_); rintro e v1 ⟨rfl, hb_⟩; rw [HT1.out]; have M_n := Aside0.mk (M.out.alloc _ hb_); clear hb_ M; have M := M_n; clear M_n; clear q0 p0 q1 p1 q2 p2 q3 p3 q4 p4 q5 p5 q6 p6 q7 p7 q8 p8 q9 p9 q10 p10; obtain ⟨q0, q1, q2, q3, q4, q5, q6, q7, q8, q9, q10⟩ := cells11 v1 (w.heap.size) M.out.b0.at; obtain ⟨p0, p1, p2, p3, p4, p5, p6, p7, p8, p9, p10⟩ := cells11 v1 (w.heap.size + 1) M.out.b1.at) | (go_at_call 28; (with_reducible refine (M.out.same0 ⟨r.f0, r.f1, 0, 0, r.f4, 0, 0, ⟨#[]⟩, ⟨#[]⟩, [], []⟩ rfl rfl).mono ?_); rintro e v2 ⟨rfl, hb_⟩; rw [HT2.out]; have M_n := Aside0.mk (M.out.next hb_); clear hb_ M; have M := M_n; clear M_n; clear q0 p0 q1 p1 q2 p2 q3 p3 q4 p4 q5 p5 q6 p6 q7 p7 q8 p8 q9 p9 q10 p10; obtain ⟨q0, q1, q2, q3, q4, q5, q6, q7, q8, q9, q10⟩ := cells11 v2 (w.heap.size) M.out.b0.at; obtain ⟨p0, p1, p2, p3, p4, p5, p6, p7, p8, p9, p10⟩ := cells11 v2 (w.heap.size + 1) M.out.b1.at))
    go_ret
    exact ⟨by rw [HM.out, HT0.out, HT1.out, HT2.out]; rfl, M.out.below⟩
  | true =>
  have HT2 := Aside0.mk ht2; clear ht2
  go_wp2_with (first | (go_at_call 56; (with_reducible refine (rnum2 r.f1 r.f4 _).mono ?_); rintro e v1 ⟨rfl, hb_⟩; rw [HT1.out]; have M_n := Aside0.mk (M.out.alloc _ hb_); clear hb_ M; have M := M_n; clear M_n; clear q0 p0 q1 p1 q2 p2 q3 p3 q4 p4 q5 p5 q6 p6 q7 p7 q8 p8 q9 p9 q10 p10; obtain ⟨q0, q1, q2, q3, q4, q5, q6, q7, q8, q9, q10⟩ := cells11 v1 (w.heap.size) M.out.b0.at; obtain ⟨p0, p1, p2, p3, p4, p5, p6, p7, p8, p9, p10⟩ := cells11 v1 (w.heap.size + 1) M.out.b1.at) | (go_at_call 28; (with_reducible refine (M.out.same0 ⟨r.f0, r.f1, 0, 0, r.f4, 0, 0, ⟨#[]⟩, ⟨#[]⟩, [], []⟩ rfl rfl).mono ?_); rintro e v2 ⟨rfl, hb_⟩; rw [HT2.out]; have M_n := Aside0.mk (M.out.next hb_); clear hb_ M; have M := M_n; clear M_n; clear q0 p0 q1 p1 q2 p2 q3 p3 q4 p4 q5 p5 q6 p6 q7 p7 q8 p8 q9 p9 q10 p10; obtain ⟨q0, q1, q2, q3, q4, q5, q6, q7, q8, q9, q10⟩ := cells11 v2 (w.heap.size) M.out.b0.at; obtain ⟨p0, p1, p2, p3, p4, p5, p6, p7, p8, p9, p10⟩ := cells11 v2 (w.heap.size + 1) M.out.b1.at))
  go_ret
  exact ⟨by rw [HM.out, HT0.out, HT1.out, HT2.out]; rfl, M.out.below⟩
set_option maxHeartbeats 4000000 in
set_option maxRecDepth 100000 in
theorem may_four (r : S37) (A9 : Option Addr) (c9 : Nat) (A10 : Option Addr) (c10 : Nat) (w : World) (h9 : Kd.C k107 w A9 r.f9.length r.f9) (l9 : r.f9.length ≤ c9) (h10 : Kd.C k109 w A10 r.f10.length r.f10) (l10 : r.f10.length ≤ c10) (s9 : r.f9.length ≤ 1000000) (s10 : r.f10.length ≤ 1000000) (hk : r.f0 = 4) : Calls Try.prog 26 #[aggR r A9 c9 A10 c10] w fun e w' => e = .returned (.bool (mayB r)) ∧ Below w.heap.size w w' := by
  have HK_ := Aside0.mk hk; have HM := Aside0.mk (show mayB r = (decide (1 ≤ r.f1) && ([r.f1, r.f4].all isNum && (decide (r = ⟨r.f0, r.f1, 0, 0, r.f4, 0, 0, ⟨#[]⟩, ⟨#[]⟩, [], []⟩)))) by unfold mayB; rw [if_neg (by omega), if_neg (by omega), if_pos (by omega)])
  clear hk
  go_enter Try.func26, Try.ntmps26
  go_upto_region 2 with (fail)
  obtain ⟨W0, hW0, hM⟩ : ∃ W0, W0 = (w.alloc (.cells #[.int .i64 r.f0, .int .i64 r.f1, .int .i64 r.f2, .int .i64 r.f3, .int .i64 r.f4, .int .i64 r.f5, .int .i64 r.f6, .string r.f7, .string r.f8, .slice A9 r.f9.length c9, .slice A10 r.f10.length c10] 37)).alloc (.cells #[.int .i64 r.f0, .int .i64 r.f1, .int .i64 r.f2, .int .i64 r.f3, .int .i64 r.f4, .int .i64 r.f5, .int .i64 r.f6, .string r.f7, .string r.f8, .slice A9 r.f9.length c9, .slice A10 r.f10.length c10] 37) ∧ MY w W0 r A9 c9 A10 c10 := by
    refine ⟨_, rfl, ?_⟩
    have hb := ((Below.refl w.heap.size w).alloc (Nat.le_refl _) (.cells #[.int .i64 r.f0, .int .i64 r.f1, .int .i64 r.f2, .int .i64 r.f3, .int .i64 r.f4, .int .i64 r.f5, .int .i64 r.f6, .string r.f7, .string r.f8, .slice A9 r.f9.length c9, .slice A10 r.f10.length c10] 37)).alloc (by simp) (.cells #[.int .i64 r.f0, .int .i64 r.f1, .int .i64 r.f2, .int .i64 r.f3, .int .i64 r.f4, .int .i64 r.f5, .int .i64 r.f6, .string r.f7, .string r.f8, .slice A9 r.f9.length c9, .slice A10 r.f10.length c10] 37)
    refine ⟨hb, blk_below (heap_alloc_new w _) ((Below.refl _ _).alloc (Nat.le_refl _) _), ?_, Kd.C_below h9 hb, l9, Kd.C_below h10 hb, l10, s9, s10⟩
    have h := heap_alloc_new (w.alloc (.cells #[.int .i64 r.f0, .int .i64 r.f1, .int .i64 r.f2, .int .i64 r.f3, .int .i64 r.f4, .int .i64 r.f5, .int .i64 r.f6, .string r.f7, .string r.f8, .slice A9 r.f9.length c9, .slice A10 r.f10.length c10] 37)) (.cells #[.int .i64 r.f0, .int .i64 r.f1, .int .i64 r.f2, .int .i64 r.f3, .int .i64 r.f4, .int .i64 r.f5, .int .i64 r.f6, .string r.f7, .string r.f8, .slice A9 r.f9.length c9, .slice A10 r.f10.length c10] 37)
    rw [show (w.alloc (.cells #[.int .i64 r.f0, .int .i64 r.f1, .int .i64 r.f2, .int .i64 r.f3, .int .i64 r.f4, .int .i64 r.f5, .int .i64 r.f6, .string r.f7, .string r.f8, .slice A9 r.f9.length c9, .slice A10 r.f10.length c10] 37)).heap.size = w.heap.size + 1 by simp] at h
    exact h
  rw [← hW0]
  have M := Aside0.mk hM
  clear hW0 hM h9 l9 h10 l10 s9 s10
  obtain ⟨q0, q1, q2, q3, q4, q5, q6, q7, q8, q9, q10⟩ := cells11 W0 (w.heap.size) M.out.b0.at
  obtain ⟨p0, p1, p2, p3, p4, p5, p6, p7, p8, p9, p10⟩ := cells11 W0 (w.heap.size + 1) M.out.b1.at
  have t1 : (r.f0 == 1) = false := by rw [beq_eq_false_iff_ne]; have := HK_.out; omega
  have t2 : (r.f0 == 2) = false := by rw [beq_eq_false_iff_ne]; have := HK_.out; omega
  have t3 : (r.f0 == 3) = false := by rw [beq_eq_false_iff_ne]; have := HK_.out; omega
  have t4 : (r.f0 == 4) = true := by rw [beq_iff_eq]; exact HK_.out
  by_cases ht0 : 1 ≤ r.f1
  rotate_left
  · have HT0 := Aside0.mk (show decide (1 ≤ r.f1) = false from decide_eq_false ht0)
    have c0 : decide (1 ≤ r.f1) = false := decide_eq_false ht0
    clear ht0
    go_wp2
    go_ret
    exact ⟨by rw [HM.out, HT0.out]; rfl, M.out.below⟩
  have HT0 := Aside0.mk (show decide (1 ≤ r.f1) = true from decide_eq_true ht0)
  have c0 : decide (1 ≤ r.f1) = true := decide_eq_true ht0
  clear ht0
  cases ht1 : ([r.f1, r.f4].all isNum) with
  | false =>
    have HT1 := Aside0.mk ht1; clear ht1
    go_wp2_with (first | (go_at_call 56; (with_reducible refine (rnum2 r.f1 r.f4 _).mono ?_); rintro e v1 ⟨rfl, hb_⟩; rw [HT1.out]; have M_n := Aside0.mk (M.out.alloc _ hb_); clear hb_ M; have M := M_n; clear M_n; clear q0 p0 q1 p1 q2 p2 q3 p3 q4 p4 q5 p5 q6 p6 q7 p7 q8 p8 q9 p9 q10 p10; obtain ⟨q0, q1, q2, q3, q4, q5, q6, q7, q8, q9, q10⟩ := cells11 v1 (w.heap.size) M.out.b0.at; obtain ⟨p0, p1, p2, p3, p4, p5, p6, p7, p8, p9, p10⟩ := cells11 v1 (w.heap.size + 1) M.out.b1.at))
    go_ret
    exact ⟨by rw [HM.out, HT0.out, HT1.out]; rfl, M.out.below⟩
  | true =>
  have HT1 := Aside0.mk ht1; clear ht1
  cases ht2 : (decide (r = ⟨r.f0, r.f1, 0, 0, r.f4, 0, 0, ⟨#[]⟩, ⟨#[]⟩, [], []⟩)) with
  | false =>
    have HT2 := Aside0.mk ht2; clear ht2
    go_wp2_with (first | (go_at_call 56; (with_reducible refine (rnum2 r.f1 r.f4 _).mono ?_); rintro e v1 ⟨rfl, hb_⟩; rw [HT1.out]; have M_n := Aside0.mk (M.out.alloc _ hb_); clear hb_ M; have M := M_n; clear M_n; clear q0 p0 q1 p1 q2 p2 q3 p3 q4 p4 q5 p5 q6 p6 q7 p7 q8 p8 q9 p9 q10 p10; obtain ⟨q0, q1, q2, q3, q4, q5, q6, q7, q8, q9, q10⟩ := cells11 v1 (w.heap.size) M.out.b0.at; obtain ⟨p0, p1, p2, p3, p4, p5, p6, p7, p8, p9, p10⟩ := cells11 v1 (w.heap.size + 1) M.out.b1.at) | (go_at_call 28; (with_reducible refine (M.out.same0 ⟨r.f0, r.f1, 0, 0, r.f4, 0, 0, ⟨#[]⟩, ⟨#[]⟩, [], []⟩ rfl rfl).mono ?_); rintro e v2 ⟨rfl, hb_⟩; rw [HT2.out]; have M_n := Aside0.mk (M.out.next hb_); clear hb_ M; have M := M_n; clear M_n; clear q0 p0 q1 p1 q2 p2 q3 p3 q4 p4 q5 p5 q6 p6 q7 p7 q8 p8 q9 p9 q10 p10; obtain ⟨q0, q1, q2, q3, q4, q5, q6, q7, q8, q9, q10⟩ := cells11 v2 (w.heap.size) M.out.b0.at; obtain ⟨p0, p1, p2, p3, p4, p5, p6, p7, p8, p9, p10⟩ := cells11 v2 (w.heap.size + 1) M.out.b1.at))
    go_ret
    exact ⟨by rw [HM.out, HT0.out, HT1.out, HT2.out]; rfl, M.out.below⟩
  | true =>
  have HT2 := Aside0.mk ht2; clear ht2
  go_wp2_with (first | (go_at_call 56; (with_reducible refine (rnum2 r.f1 r.f4 _).mono ?_); rintro e v1 ⟨rfl, hb_⟩; rw [HT1.out]; have M_n := Aside0.mk (M.out.alloc _ hb_); clear hb_ M; have M := M_n; clear M_n; clear q0 p0 q1 p1 q2 p2 q3 p3 q4 p4 q5 p5 q6 p6 q7 p7 q8 p8 q9 p9 q10 p10; obtain ⟨q0, q1, q2, q3, q4, q5, q6, q7, q8, q9, q10⟩ := cells11 v1 (w.heap.size) M.out.b0.at; obtain ⟨p0, p1, p2, p3, p4, p5, p6, p7, p8, p9, p10⟩ := cells11 v1 (w.heap.size + 1) M.out.b1.at) | (go_at_call 28; (with_reducible refine (M.out.same0 ⟨r.f0, r.f1, 0, 0, r.f4, 0, 0, ⟨#[]⟩, ⟨#[]⟩, [], []⟩ rfl rfl).mono ?_); rintro e v2 ⟨rfl, hb_⟩; rw [HT2.out]; have M_n := Aside0.mk (M.out.next hb_); clear hb_ M; have M := M_n; clear M_n; clear q0 p0 q1 p1 q2 p2 q3 p3 q4 p4 q5 p5 q6 p6 q7 p7 q8 p8 q9 p9 q10 p10; obtain ⟨q0, q1, q2, q3, q4, q5, q6, q7, q8, q9, q10⟩ := cells11 v2 (w.heap.size) M.out.b0.at; obtain ⟨p0, p1, p2, p3, p4, p5, p6, p7, p8, p9, p10⟩ := cells11 v2 (w.heap.size + 1) M.out.b1.at))
  go_ret
  exact ⟨by rw [HM.out, HT0.out, HT1.out, HT2.out]; rfl, M.out.below⟩
set_option maxHeartbeats 4000000 in
set_option maxRecDepth 100000 in
theorem may_five (r : S37) (A9 : Option Addr) (c9 : Nat) (A10 : Option Addr) (c10 : Nat) (w : World) (h9 : Kd.C k107 w A9 r.f9.length r.f9) (l9 : r.f9.length ≤ c9) (h10 : Kd.C k109 w A10 r.f10.length r.f10) (l10 : r.f10.length ≤ c10) (s9 : r.f9.length ≤ 1000000) (s10 : r.f10.length ≤ 1000000) (hk : r.f0 = 5) : Calls Try.prog 26 #[aggR r A9 c9 A10 c10] w fun e w' => e = .returned (.bool (mayB r)) ∧ Below w.heap.size w w' := by
  have HK_ := Aside0.mk hk; have HM := Aside0.mk (show mayB r = (decide (r = ⟨5, 0, 0, 0, 0, 0, 0, ⟨#[]⟩, ⟨#[]⟩, [], []⟩)) by unfold mayB; rw [if_neg (by omega), if_neg (by omega), if_neg (by omega), if_pos hk])
  clear hk
  go_enter Try.func26, Try.ntmps26
  go_upto_region 2 with (fail)
  obtain ⟨W0, hW0, hM⟩ : ∃ W0, W0 = (w.alloc (.cells #[.int .i64 r.f0, .int .i64 r.f1, .int .i64 r.f2, .int .i64 r.f3, .int .i64 r.f4, .int .i64 r.f5, .int .i64 r.f6, .string r.f7, .string r.f8, .slice A9 r.f9.length c9, .slice A10 r.f10.length c10] 37)).alloc (.cells #[.int .i64 r.f0, .int .i64 r.f1, .int .i64 r.f2, .int .i64 r.f3, .int .i64 r.f4, .int .i64 r.f5, .int .i64 r.f6, .string r.f7, .string r.f8, .slice A9 r.f9.length c9, .slice A10 r.f10.length c10] 37) ∧ MY w W0 r A9 c9 A10 c10 := by
    refine ⟨_, rfl, ?_⟩
    have hb := ((Below.refl w.heap.size w).alloc (Nat.le_refl _) (.cells #[.int .i64 r.f0, .int .i64 r.f1, .int .i64 r.f2, .int .i64 r.f3, .int .i64 r.f4, .int .i64 r.f5, .int .i64 r.f6, .string r.f7, .string r.f8, .slice A9 r.f9.length c9, .slice A10 r.f10.length c10] 37)).alloc (by simp) (.cells #[.int .i64 r.f0, .int .i64 r.f1, .int .i64 r.f2, .int .i64 r.f3, .int .i64 r.f4, .int .i64 r.f5, .int .i64 r.f6, .string r.f7, .string r.f8, .slice A9 r.f9.length c9, .slice A10 r.f10.length c10] 37)
    refine ⟨hb, blk_below (heap_alloc_new w _) ((Below.refl _ _).alloc (Nat.le_refl _) _), ?_, Kd.C_below h9 hb, l9, Kd.C_below h10 hb, l10, s9, s10⟩
    have h := heap_alloc_new (w.alloc (.cells #[.int .i64 r.f0, .int .i64 r.f1, .int .i64 r.f2, .int .i64 r.f3, .int .i64 r.f4, .int .i64 r.f5, .int .i64 r.f6, .string r.f7, .string r.f8, .slice A9 r.f9.length c9, .slice A10 r.f10.length c10] 37)) (.cells #[.int .i64 r.f0, .int .i64 r.f1, .int .i64 r.f2, .int .i64 r.f3, .int .i64 r.f4, .int .i64 r.f5, .int .i64 r.f6, .string r.f7, .string r.f8, .slice A9 r.f9.length c9, .slice A10 r.f10.length c10] 37)
    rw [show (w.alloc (.cells #[.int .i64 r.f0, .int .i64 r.f1, .int .i64 r.f2, .int .i64 r.f3, .int .i64 r.f4, .int .i64 r.f5, .int .i64 r.f6, .string r.f7, .string r.f8, .slice A9 r.f9.length c9, .slice A10 r.f10.length c10] 37)).heap.size = w.heap.size + 1 by simp] at h
    exact h
  rw [← hW0]
  have M := Aside0.mk hM
  clear hW0 hM h9 l9 h10 l10 s9 s10
  obtain ⟨q0, q1, q2, q3, q4, q5, q6, q7, q8, q9, q10⟩ := cells11 W0 (w.heap.size) M.out.b0.at
  obtain ⟨p0, p1, p2, p3, p4, p5, p6, p7, p8, p9, p10⟩ := cells11 W0 (w.heap.size + 1) M.out.b1.at
  have t1 : (r.f0 == 1) = false := by rw [beq_eq_false_iff_ne]; have := HK_.out; omega
  have t2 : (r.f0 == 2) = false := by rw [beq_eq_false_iff_ne]; have := HK_.out; omega
  have t3 : (r.f0 == 3) = false := by rw [beq_eq_false_iff_ne]; have := HK_.out; omega
  have t4 : (r.f0 == 4) = false := by rw [beq_eq_false_iff_ne]; have := HK_.out; omega
  have t5 : (r.f0 == 5) = true := by rw [beq_iff_eq]; exact HK_.out
  cases ht0 : (decide (r = ⟨5, 0, 0, 0, 0, 0, 0, ⟨#[]⟩, ⟨#[]⟩, [], []⟩)) with
  | false =>
    have HT0 := Aside0.mk ht0; clear ht0
    go_wp2_with (first | (go_at_call 28; (with_reducible refine (M.out.same0 ⟨5, 0, 0, 0, 0, 0, 0, ⟨#[]⟩, ⟨#[]⟩, [], []⟩ rfl rfl).mono ?_); rintro e v0 ⟨rfl, hb_⟩; rw [HT0.out]; have M_n := Aside0.mk (M.out.next hb_); clear hb_ M; have M := M_n; clear M_n; clear q0 p0 q1 p1 q2 p2 q3 p3 q4 p4 q5 p5 q6 p6 q7 p7 q8 p8 q9 p9 q10 p10; obtain ⟨q0, q1, q2, q3, q4, q5, q6, q7, q8, q9, q10⟩ := cells11 v0 (w.heap.size) M.out.b0.at; obtain ⟨p0, p1, p2, p3, p4, p5, p6, p7, p8, p9, p10⟩ := cells11 v0 (w.heap.size + 1) M.out.b1.at))
    go_ret
    exact ⟨by rw [HM.out, HT0.out]; rfl, M.out.below⟩
  | true =>
  have HT0 := Aside0.mk ht0; clear ht0
  go_wp2_with (first | (go_at_call 28; (with_reducible refine (M.out.same0 ⟨5, 0, 0, 0, 0, 0, 0, ⟨#[]⟩, ⟨#[]⟩, [], []⟩ rfl rfl).mono ?_); rintro e v0 ⟨rfl, hb_⟩; rw [HT0.out]; have M_n := Aside0.mk (M.out.next hb_); clear hb_ M; have M := M_n; clear M_n; clear q0 p0 q1 p1 q2 p2 q3 p3 q4 p4 q5 p5 q6 p6 q7 p7 q8 p8 q9 p9 q10 p10; obtain ⟨q0, q1, q2, q3, q4, q5, q6, q7, q8, q9, q10⟩ := cells11 v0 (w.heap.size) M.out.b0.at; obtain ⟨p0, p1, p2, p3, p4, p5, p6, p7, p8, p9, p10⟩ := cells11 v0 (w.heap.size + 1) M.out.b1.at))
  go_ret
  exact ⟨by rw [HM.out, HT0.out]; rfl, M.out.below⟩
set_option maxHeartbeats 4000000 in
set_option maxRecDepth 100000 in
theorem may_none (r : S37) (A9 : Option Addr) (c9 : Nat) (A10 : Option Addr) (c10 : Nat) (w : World) (h9 : Kd.C k107 w A9 r.f9.length r.f9) (l9 : r.f9.length ≤ c9) (h10 : Kd.C k109 w A10 r.f10.length r.f10) (l10 : r.f10.length ≤ c10) (s9 : r.f9.length ≤ 1000000) (s10 : r.f10.length ≤ 1000000) (hk : r.f0 ≠ 1 ∧ r.f0 ≠ 2 ∧ ¬ (r.f0 = 3 ∨ r.f0 = 4) ∧ r.f0 ≠ 5 ∧ r.f0 ≠ 6) : Calls Try.prog 26 #[aggR r A9 c9 A10 c10] w fun e w' => e = .returned (.bool (mayB r)) ∧ Below w.heap.size w w' := by
  have HK_ := Aside0.mk hk; have HM := Aside0.mk (show mayB r = (false) by unfold mayB; rw [if_neg hk.1, if_neg hk.2.1, if_neg hk.2.2.1, if_neg hk.2.2.2.1, if_neg hk.2.2.2.2])
  clear hk
  go_enter Try.func26, Try.ntmps26
  go_upto_region 2 with (fail)
  obtain ⟨W0, hW0, hM⟩ : ∃ W0, W0 = (w.alloc (.cells #[.int .i64 r.f0, .int .i64 r.f1, .int .i64 r.f2, .int .i64 r.f3, .int .i64 r.f4, .int .i64 r.f5, .int .i64 r.f6, .string r.f7, .string r.f8, .slice A9 r.f9.length c9, .slice A10 r.f10.length c10] 37)).alloc (.cells #[.int .i64 r.f0, .int .i64 r.f1, .int .i64 r.f2, .int .i64 r.f3, .int .i64 r.f4, .int .i64 r.f5, .int .i64 r.f6, .string r.f7, .string r.f8, .slice A9 r.f9.length c9, .slice A10 r.f10.length c10] 37) ∧ MY w W0 r A9 c9 A10 c10 := by
    refine ⟨_, rfl, ?_⟩
    have hb := ((Below.refl w.heap.size w).alloc (Nat.le_refl _) (.cells #[.int .i64 r.f0, .int .i64 r.f1, .int .i64 r.f2, .int .i64 r.f3, .int .i64 r.f4, .int .i64 r.f5, .int .i64 r.f6, .string r.f7, .string r.f8, .slice A9 r.f9.length c9, .slice A10 r.f10.length c10] 37)).alloc (by simp) (.cells #[.int .i64 r.f0, .int .i64 r.f1, .int .i64 r.f2, .int .i64 r.f3, .int .i64 r.f4, .int .i64 r.f5, .int .i64 r.f6, .string r.f7, .string r.f8, .slice A9 r.f9.length c9, .slice A10 r.f10.length c10] 37)
    refine ⟨hb, blk_below (heap_alloc_new w _) ((Below.refl _ _).alloc (Nat.le_refl _) _), ?_, Kd.C_below h9 hb, l9, Kd.C_below h10 hb, l10, s9, s10⟩
    have h := heap_alloc_new (w.alloc (.cells #[.int .i64 r.f0, .int .i64 r.f1, .int .i64 r.f2, .int .i64 r.f3, .int .i64 r.f4, .int .i64 r.f5, .int .i64 r.f6, .string r.f7, .string r.f8, .slice A9 r.f9.length c9, .slice A10 r.f10.length c10] 37)) (.cells #[.int .i64 r.f0, .int .i64 r.f1, .int .i64 r.f2, .int .i64 r.f3, .int .i64 r.f4, .int .i64 r.f5, .int .i64 r.f6, .string r.f7, .string r.f8, .slice A9 r.f9.length c9, .slice A10 r.f10.length c10] 37)
    rw [show (w.alloc (.cells #[.int .i64 r.f0, .int .i64 r.f1, .int .i64 r.f2, .int .i64 r.f3, .int .i64 r.f4, .int .i64 r.f5, .int .i64 r.f6, .string r.f7, .string r.f8, .slice A9 r.f9.length c9, .slice A10 r.f10.length c10] 37)).heap.size = w.heap.size + 1 by simp] at h
    exact h
  rw [← hW0]
  have M := Aside0.mk hM
  clear hW0 hM h9 l9 h10 l10 s9 s10
  obtain ⟨q0, q1, q2, q3, q4, q5, q6, q7, q8, q9, q10⟩ := cells11 W0 (w.heap.size) M.out.b0.at
  obtain ⟨p0, p1, p2, p3, p4, p5, p6, p7, p8, p9, p10⟩ := cells11 W0 (w.heap.size + 1) M.out.b1.at
  have t1 : (r.f0 == 1) = false := by rw [beq_eq_false_iff_ne]; have := HK_.out; omega
  have t2 : (r.f0 == 2) = false := by rw [beq_eq_false_iff_ne]; have := HK_.out; omega
  have t3 : (r.f0 == 3) = false := by rw [beq_eq_false_iff_ne]; have := HK_.out; omega
  have t4 : (r.f0 == 4) = false := by rw [beq_eq_false_iff_ne]; have := HK_.out; omega
  have t5 : (r.f0 == 5) = false := by rw [beq_eq_false_iff_ne]; have := HK_.out; omega
  have t6 : (r.f0 == 6) = false := by rw [beq_eq_false_iff_ne]; have := HK_.out; omega
  go_wp2
  go_ret
  exact ⟨by rw [HM.out]; rfl, M.out.below⟩
end Go.Proofs.Ytbnglmeljbiglaa.Wr
