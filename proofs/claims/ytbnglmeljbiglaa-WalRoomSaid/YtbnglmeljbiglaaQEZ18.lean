import Derived.Test.YtbnglmeljbiglaaQEZ0
import Derived.Test.YtbnglmeljbiglaaQEZ1
import Derived.Test.YtbnglmeljbiglaaQEZ2
import Derived.Test.YtbnglmeljbiglaaQEZ3
import Derived.Test.YtbnglmeljbiglaaQEZ5
import Derived.Test.YtbnglmeljbiglaaQEZ6
import Derived.Test.YtbnglmeljbiglaaQEZ7
import Derived.Test.YtbnglmeljbiglaaQEZ8
import Derived.Test.YtbnglmeljbiglaaQEZ9
import Derived.Test.YtbnglmeljbiglaaQEZ10
import Derived.Test.YtbnglmeljbiglaaQEZ11
import Derived.Test.YtbnglmeljbiglaaQEZ12
import Derived.Test.YtbnglmeljbiglaaQEZ13
set_option maxRecDepth 8192
namespace Go.Proofs.Ytbnglmeljbiglaa.Wr
open Go.Proofs.Ytbnglmeljbiglaa.Rgn
open Go.Proofs.Ytbnglmeljbiglaa.Rp Go.Proofs.Ytbnglmeljbiglaa.X4
open Go Go.RowKit Go.ChangeMaps Go.Proofs.Ytbnglmeljbiglaa.Arr Go.Proofs.Ytbnglmeljbiglaa.Ow Go.Proofs.YtbnglmeljbiglaaW.PrintWords Go.Proofs.YtbnglmeljbiglaaW.PrintLast Go.Proofs.YtbnglmeljbiglaaW.PrintMore
set_option linter.unusedVariables false
set_option linter.unusedSimpArgs false
set_option maxHeartbeats 4000000 in
set_option maxRecDepth 100000 in
theorem may_six (r : S37) (A9 : Option Addr) (c9 : Nat) (A10 : Option Addr) (c10 : Nat) (w : World) (h9 : Kd.C k107 w A9 r.f9.length r.f9) (l9 : r.f9.length ≤ c9) (h10 : Kd.C k109 w A10 r.f10.length r.f10) (l10 : r.f10.length ≤ c10) (s9 : r.f9.length ≤ 1000000) (s10 : r.f10.length ≤ 1000000) (hk : r.f0 = 6) : Calls Try.prog 26 #[aggR r A9 c9 A10 c10] w fun e w' => e = .returned (.bool (mayB r)) ∧ Below w.heap.size w w' := by
  have HK_ := Aside0.mk hk; have HM := Aside0.mk (show mayB r = ([r.f6].all isNum && (decide (r.f9.length ≤ 4) && (decide (r.f10.length ≤ 8) && (decide (r = ⟨6, 0, 0, 0, 0, 0, r.f6, ⟨#[]⟩, ⟨#[]⟩, r.f9, r.f10⟩) && (r.f9.all rowTB && r.f10.all rowQB))))) by unfold mayB; rw [if_neg (by omega), if_neg (by omega), if_neg (by omega), if_neg (by omega), if_pos hk])
  clear hk
  go_enter Try.func26, Try.ntmps26
  go_upto_region 2 with (fail)
  obtain ⟨W0, hW0, hM⟩ : ∃ W0, W0 = (w.alloc (.cells #[.int .i64 r.f0, .int .i64 r.f1, .int .i64 r.f2, .int .i64 r.f3, .int .i64 r.f4, .int .i64 r.f5, .int .i64 r.f6, .string r.f7, .string r.f8, .slice A9 r.f9.length c9, .slice A10 r.f10.length c10] 37)).alloc (.cells #[.int .i64 r.f0, .int .i64 r.f1, .int .i64 r.f2, .int .i64 r.f3, .int .i64 r.f4, .int .i64 r.f5, .int .i64 r.f6, .string r.f7, .string r.f8, .slice A9 r.f9.length c9, .slice A10 r.f10.length c10] 37) ∧ MY w W0 r A9 c9 A10 c10 := by
    refine ⟨_, rfl, ?_⟩
    have hb := ((Below.refl w.heap.size w).alloc (Nat.le_refl _) (.cells #[.int .i64 r.f0, .int .i64 r.f1, .int .i64 r.f2, .int .i64 r.f3, .int .i64 r.f4, .int .i64 r.f5, .int .i64 r.f6, .string r.f7, .string r.f8, .slice A9 r.f9.length c9, .slice A10 r.f10.length c10] 37)).alloc (by simp) (.cells #[.int .i64 r.f0, .int .i64 r.f1, .int .i64 r.f2, .int .i64 r.f3, .int .i64 r.f4, .int .i64 r.f5, .int .i64 r.f6, .string r.f7, .string r.f8, .slice A9 r.f9.length c9, .slice A10 r.f10.length c10] 37)
    refine ⟨hb, blk_below (heap_alloc_new w _) ((Below.refl _ _).alloc (Nat.le_refl _) _), ?_, Kd.C_below h9 hb, l9, Kd.C_below h10 hb, l10, s9, s10⟩
    have h := heap_alloc_new (w.alloc (.cells #[.int .i64 r.f0, .int .i64 r.f1, .int .i64 r.f2, .int .i64 r.f3, .int .i64 r.f4, .int .i64 r.f5, .int .i64 r.f6, .string r.f7, .string r.f8, .slice A9 r.f9.length c9, .slice A10 r.f10.length c10] 37)) (.cells #[.int .i64 r.f0, .int .i64 r.f1, .int .i64 r.f2, .int .i64 r.f3, .int .i64 r.f4, .int .i64 r.f5, .int .i64 r.f6, .string r.f7, .string r.f8, .slice A9 r.f9.length c9, .slice A10 r.f10.length c10] 37)
    rw [show (w.alloc (.cells #[.int .i64 r.f0, .int .i64 r.f1, .int .i64 r.f2, .int .i64 r.f3, .int .i64 r.f4, .int .i64 r.f5, .int .i64 r.f6, .string r.f7, .string r.f8, .slice A9 r.f9.length c9, .slice A10 r.f10.length c10] 37)).heap.size = w.heap.size + 1 by simp] at h
    exact h
  rw [← hW0]
  have M := Aside0.mk hM
  clear hW0 hM h9 l9 h10 l10 s9 s10
  obtain ⟨q0, q1, q2, q3, q4, q5, q6, q7, q8, q9, q10⟩ := cells11 W0 (w.heap.size) M.out.b0.at
  obtain ⟨p0, p1, p2, p3, p4, p5, p6, p7, p8, p9, p10⟩ := cells11 W0 (w.heap.size + 1) M.out.b1.at
  have t1 : (r.f0 == 1) = false := by rw [beq_eq_false_iff_ne]; have := HK_.out; omega
  have t2 : (r.f0 == 2) = false := by rw [beq_eq_false_iff_ne]; have := HK_.out; omega
  have t3 : (r.f0 == 3) = false := by rw [beq_eq_false_iff_ne]; have := HK_.out; omega
  have t4 : (r.f0 == 4) = false := by rw [beq_eq_false_iff_ne]; have := HK_.out; omega
  have t5 : (r.f0 == 5) = false := by rw [beq_eq_false_iff_ne]; have := HK_.out; omega
  have t6 : (r.f0 == 6) = true := by rw [beq_iff_eq]; exact HK_.out
  cases ht0 : ([r.f6].all isNum) with
  | false =>
    have HT0 := Aside0.mk ht0; clear ht0
    go_wp2_with (first | (go_at_call 56; (with_reducible refine (rnum1 r.f6 _).mono ?_); rintro e v0 ⟨rfl, hb_⟩; rw [HT0.out]; have M_n := Aside0.mk (M.out.alloc _ hb_); clear hb_ M; have M := M_n; clear M_n; clear q0 p0 q1 p1 q2 p2 q3 p3 q4 p4 q5 p5 q6 p6 q7 p7 q8 p8 q9 p9 q10 p10; obtain ⟨q0, q1, q2, q3, q4, q5, q6, q7, q8, q9, q10⟩ := cells11 v0 (w.heap.size) M.out.b0.at; obtain ⟨p0, p1, p2, p3, p4, p5, p6, p7, p8, p9, p10⟩ := cells11 v0 (w.heap.size + 1) M.out.b1.at))
    go_ret
    exact ⟨by rw [HM.out, HT0.out]; rfl, M.out.below⟩
  | true =>
  have HT0 := Aside0.mk ht0; clear ht0
  by_cases ht1 : r.f9.length ≤ 4
  rotate_left
  · have HT1 := Aside0.mk (show decide (r.f9.length ≤ 4) = false from decide_eq_false ht1)
    have c1 : decide ((4 : Int) < (r.f9.length : Int)) = true := decide_eq_true (by omega)
    have d1 : decide (4 < r.f9.length) = true := decide_eq_true (by omega)
    clear ht1
    go_wp2_with (first | (go_at_call 56; (with_reducible refine (rnum1 r.f6 _).mono ?_); rintro e v0 ⟨rfl, hb_⟩; rw [HT0.out]; have M_n := Aside0.mk (M.out.alloc _ hb_); clear hb_ M; have M := M_n; clear M_n; clear q0 p0 q1 p1 q2 p2 q3 p3 q4 p4 q5 p5 q6 p6 q7 p7 q8 p8 q9 p9 q10 p10; obtain ⟨q0, q1, q2, q3, q4, q5, q6, q7, q8, q9, q10⟩ := cells11 v0 (w.heap.size) M.out.b0.at; obtain ⟨p0, p1, p2, p3, p4, p5, p6, p7, p8, p9, p10⟩ := cells11 v0 (w.heap.size + 1) M.out.b1.at))
    go_ret
    exact ⟨by rw [HM.out, HT0.out, HT1.out]; rfl, M.out.below⟩
  have HT1 := Aside0.mk (show decide (r.f9.length ≤ 4) = true from decide_eq_true ht1)
  have c1 : decide ((4 : Int) < (r.f9.length : Int)) = false := decide_eq_false (by omega)
  have d1 : decide (4 < r.f9.length) = false := decide_eq_false (by omega)
  have HLE1 := Aside0.mk ht1
  clear ht1
  by_cases ht2 : r.f10.length ≤ 8
  rotate_left
  · have HT2 := Aside0.mk (show decide (r.f10.length ≤ 8) = false from decide_eq_false ht2)
    have c2 : decide ((8 : Int) < (r.f10.length : Int)) = true := decide_eq_true (by omega)
    have d2 : decide (8 < r.f10.length) = true := decide_eq_true (by omega)
    clear ht2
    go_wp2_with (first | (go_at_call 56; (with_reducible refine (rnum1 r.f6 _).mono ?_); rintro e v0 ⟨rfl, hb_⟩; rw [HT0.out]; have M_n := Aside0.mk (M.out.alloc _ hb_); clear hb_ M; have M := M_n; clear M_n; clear q0 p0 q1 p1 q2 p2 q3 p3 q4 p4 q5 p5 q6 p6 q7 p7 q8 p8 q9 p9 q10 p10; obtain ⟨q0, q1, q2, q3, q4, q5, q6, q7, q8, q9, q10⟩ := cells11 v0 (w.heap.size) M.out.b0.at; obtain ⟨p0, p1, p2, p3, p4, p5, p6, p7, p8, p9, p10⟩ := cells11 v0 (w.heap.size + 1) M.out.b1.at))
    go_ret
    exact ⟨by rw [HM.out, HT0.out, HT1.out, HT2.out]; rfl, M.out.below⟩
  have HT2 := Aside0.mk (show decide (r.f10.length ≤ 8) = true from decide_eq_true ht2)
  have c2 : decide ((8 : Int) < (r.f10.length : Int)) = false := decide_eq_false (by omega)
  have d2 : decide (8 < r.f10.length) = false := decide_eq_false (by omega)
  have HLE2 := Aside0.mk ht2
  clear ht2
  cases ht3 : (decide (r = ⟨6, 0, 0, 0, 0, 0, r.f6, ⟨#[]⟩, ⟨#[]⟩, r.f9, r.f10⟩)) with
  | false =>
    have HT3 := Aside0.mk ht3; clear ht3
    go_wp2_with (first | (go_at_call 56; (with_reducible refine (rnum1 r.f6 _).mono ?_); rintro e v0 ⟨rfl, hb_⟩; rw [HT0.out]; have M_n := Aside0.mk (M.out.alloc _ hb_); clear hb_ M; have M := M_n; clear M_n; clear q0 p0 q1 p1 q2 p2 q3 p3 q4 p4 q5 p5 q6 p6 q7 p7 q8 p8 q9 p9 q10 p10; obtain ⟨q0, q1, q2, q3, q4, q5, q6, q7, q8, q9, q10⟩ := cells11 v0 (w.heap.size) M.out.b0.at; obtain ⟨p0, p1, p2, p3, p4, p5, p6, p7, p8, p9, p10⟩ := cells11 v0 (w.heap.size + 1) M.out.b1.at) | (go_at_call 28; (with_reducible refine (M.out.same ⟨6, 0, 0, 0, 0, 0, r.f6, ⟨#[]⟩, ⟨#[]⟩, r.f9, r.f10⟩ A9 c9 A10 c10 M.out.r9 M.out.l9 M.out.r10 M.out.l10).mono ?_); rintro e v3 ⟨rfl, hb_⟩; rw [HT3.out]; have M_n := Aside0.mk (M.out.next hb_); clear hb_ M; have M := M_n; clear M_n; clear q0 p0 q1 p1 q2 p2 q3 p3 q4 p4 q5 p5 q6 p6 q7 p7 q8 p8 q9 p9 q10 p10; obtain ⟨q0, q1, q2, q3, q4, q5, q6, q7, q8, q9, q10⟩ := cells11 v3 (w.heap.size) M.out.b0.at; obtain ⟨p0, p1, p2, p3, p4, p5, p6, p7, p8, p9, p10⟩ := cells11 v3 (w.heap.size + 1) M.out.b1.at))
    go_ret
    exact ⟨by rw [HM.out, HT0.out, HT1.out, HT2.out, HT3.out]; rfl, M.out.below⟩
  | true =>
  have HT3 := Aside0.mk ht3; clear ht3
  go_upto_region 16 with (first | (go_at_call 56; (with_reducible refine (rnum1 r.f6 _).mono ?_); rintro e v0 ⟨rfl, hb_⟩; rw [HT0.out]; have M_n := Aside0.mk (M.out.alloc _ hb_); clear hb_ M; have M := M_n; clear M_n; clear q0 p0 q1 p1 q2 p2 q3 p3 q4 p4 q5 p5 q6 p6 q7 p7 q8 p8 q9 p9 q10 p10; obtain ⟨q0, q1, q2, q3, q4, q5, q6, q7, q8, q9, q10⟩ := cells11 v0 (w.heap.size) M.out.b0.at; obtain ⟨p0, p1, p2, p3, p4, p5, p6, p7, p8, p9, p10⟩ := cells11 v0 (w.heap.size + 1) M.out.b1.at) | (go_at_call 28; (with_reducible refine (M.out.same ⟨6, 0, 0, 0, 0, 0, r.f6, ⟨#[]⟩, ⟨#[]⟩, r.f9, r.f10⟩ A9 c9 A10 c10 M.out.r9 M.out.l9 M.out.r10 M.out.l10).mono ?_); rintro e v3 ⟨rfl, hb_⟩; rw [HT3.out]; have M_n := Aside0.mk (M.out.next hb_); clear hb_ M; have M := M_n; clear M_n; clear q0 p0 q1 p1 q2 p2 q3 p3 q4 p4 q5 p5 q6 p6 q7 p7 q8 p8 q9 p9 q10 p10; obtain ⟨q0, q1, q2, q3, q4, q5, q6, q7, q8, q9, q10⟩ := cells11 v3 (w.heap.size) M.out.b0.at; obtain ⟨p0, p1, p2, p3, p4, p5, p6, p7, p8, p9, p10⟩ := cells11 v3 (w.heap.size + 1) M.out.b1.at))
  clear q0 p0 q1 p1 q2 p2 q3 p3 q4 p4 q5 p5 q6 p6 q7 p7 q8 p8 q9 p9 q10 p10
  go_loopw [4] (fun v wr => ∃ k : Nat, v = .int .i64 k ∧ Aside0 (k ≤ r.f9.length) ∧ Aside0 ((r.f9.take k).all rowTB = true) ∧ Aside0 (MY w wr r A9 c9 A10 c10)) (fun v _ => r.f9.length - (intOf v).toNat)
  case atStart => exact ⟨0, rfl, ⟨Nat.zero_le _⟩, ⟨rfl⟩, M⟩
  case round =>
    clear M
    obtain ⟨k, rfl, K, HA, M⟩ := hrel
    have q9 : wr.cell? ⟨w.heap.size, 9, none⟩ = some (.slice A9 r.f9.length c9) := blk_cell M.out.b0.at 9
    by_cases hlt : k < r.f9.length
    · have h1 : (k : Int) < (r.f9.length : Int) := by omega
      have h2 : (0 : Int) ≤ (k : Int) := by omega
      have hwk : wrap64 ((k : Int) + 1) = ((k + 1 : Nat) : Int) := by have := M.out.s9; unfold wrap64; omega
      obtain ⟨ad, e_, x0, x1, x2⟩ := at_T107 M.out.r9 k h2 h1
      have HX := Aside0.mk (show r.f9[k]? = some (rd_T107 r.f9 k) by unfold rd_T107; rw [Int.toNat_natCast, List.getD_eq_getElem?_getD, List.getElem?_eq_getElem hlt]; rfl)
      simp only [Int.toNat_natCast] at x0 x1 x2
      subst e_
      generalize rd_T107 r.f9 k = x at *
      have HLT := Aside0.mk hlt
      go_upto_region 18 with (fail)
      have M_n := Aside0.mk M.out.drew
      clear M
      have M := M_n
      clear M_n
      have z9 : wr.drew.cell? ⟨w.heap.size, 9, none⟩ = some (.slice (some ad) r.f9.length c9) := q9
      by_cases hf : 1 ≤ x.f0
      rotate_left
      · have tA : decide (x.f0 < 1) = true := decide_eq_true (by omega)
        have HRB := Aside0.mk (show rowTB x = false by unfold rowTB; rw [decide_eq_false hf]; rfl)
        clear hf hlt
        refine start_ (n := 30) (S := fun w' => w'.cell? ⟨w.heap.size, 9, none⟩ = some (.slice (some ad) r.f9.length c9) ∧ w'.cell? (ad.add (k * 3)) = some (.int .i64 x.f0) ∧ w'.cell? ⟨(ad.add (k * 3)).block, (ad.add (k * 3)).off + 1, none⟩ = some (.int .i64 x.f1) ∧ w'.cell? ⟨(ad.add (k * 3)).block, (ad.add (k * 3)).off + 2, none⟩ = some (.int .i64 x.f2)) (ds := []) #[false, false, false, false, false, false, false, false, false, false, false, false, false, false, false, false, false, false, false, false, false, false, false, false, false, false, false, false, false, false] (by kernel_rfl) rfl rfl ⟨q9, x0, x1, x2⟩ (fun hHeld => ?_)
        refine rgp 0 156 ?_
        refine rgp 2 158 ?_
        refine rgt 1 157 hHeld ?_
        refine rgp 3 159 ?_
        refine rgp 4 160 ?_
        refine rgt 5 161 hHeld ?_
        refine rgp 6 162 ?_
        refine rgp 7 163 ?_
        refine pure_ (i := 8) (N := some 164) (v := undef) (a' := ?_) #[true, true, true, true, true, true, true, true, true, false, false, false, false, false, false, false, false, false, false, false, false, false, false, false, false, false, false, false, false, false] rfl rfl (by kernel_rfl) (fun _ _ _ h => h) (Or.inr ⟨by rfl, rfl⟩) ?_ ?_
        rotate_left
        · simp only [Act.put, List.setIfInBounds_toArray, List.set_cons_zero, List.set_cons_succ, i64_w, i32_w]
          rfl
        refine pure_ (i := 9) (N := some 165) (v := undef) (a' := ?_) #[true, true, true, true, true, true, true, true, true, true, false, false, false, false, false, false, false, false, false, false, false, false, false, false, false, false, false, false, false, false] rfl rfl (by kernel_rfl) (fun _ _ _ h => h) (Or.inr ⟨by rfl, rfl⟩) ?_ ?_
        rotate_left
        · simp only [Act.put, List.setIfInBounds_toArray, List.set_cons_zero, List.set_cons_succ, i64_w, i32_w]
          rfl
        refine pure_ (i := 10) (N := some 166) (v := undef) (a' := ?_) #[true, true, true, true, true, true, true, true, true, true, true, false, false, false, false, false, false, false, false, false, false, false, false, false, false, false, false, false, false, false] rfl rfl (by kernel_rfl) (fun _ _ _ h => h) (Or.inr ⟨by rfl, rfl⟩) ?_ ?_
        rotate_left
        · simp only [Act.put, List.setIfInBounds_toArray, List.set_cons_zero, List.set_cons_succ, i64_w, i32_w]
          rfl
        refine pure_ (i := 11) (N := some 167) (v := undef) (a' := ?_) #[true, true, true, true, true, true, true, true, true, true, true, true, false, false, false, false, false, false, false, false, false, false, false, false, false, false, false, false, false, false] rfl rfl (by kernel_rfl) (fun _ _ _ h => h) (Or.inr ⟨by rfl, rfl⟩) ?_ ?_
        rotate_left
        · simp only [Act.put, List.setIfInBounds_toArray, List.set_cons_zero, List.set_cons_succ, i64_w, i32_w]
          rfl
        refine pure_ (i := 12) (N := some 168) (v := undef) (a' := ?_) #[true, true, true, true, true, true, true, true, true, true, true, true, true, false, false, false, false, false, false, false, false, false, false, false, false, false, false, false, false, false] rfl rfl (by kernel_rfl) (fun _ _ _ h => h) (Or.inr ⟨by rfl, rfl⟩) ?_ ?_
        rotate_left
        · simp only [Act.put, List.setIfInBounds_toArray, List.set_cons_zero, List.set_cons_succ, i64_w, i32_w]
          rfl
        refine pure_ (i := 13) (N := some 169) (v := undef) (a' := ?_) #[true, true, true, true, true, true, true, true, true, true, true, true, true, true, false, false, false, false, false, false, false, false, false, false, false, false, false, false, false, false] rfl rfl (by kernel_rfl) (fun _ _ _ h => h) (Or.inr ⟨by rfl, rfl⟩) ?_ ?_
        rotate_left
        · simp only [Act.put, List.setIfInBounds_toArray, List.set_cons_zero, List.set_cons_succ, i64_w, i32_w]
          rfl
        refine pure_ (i := 14) (N := some 170) (v := undef) (a' := ?_) #[true, true, true, true, true, true, true, true, true, true, true, true, true, true, true, false, false, false, false, false, false, false, false, false, false, false, false, false, false, false] rfl rfl (by kernel_rfl) (fun _ _ _ h => h) (Or.inr ⟨by rfl, rfl⟩) ?_ ?_
        rotate_left
        · simp only [Act.put, List.setIfInBounds_toArray, List.set_cons_zero, List.set_cons_succ, i64_w, i32_w]
          rfl
        refine pure_ (i := 15) (N := some 171) (v := undef) (a' := ?_) #[true, true, true, true, true, true, true, true, true, true, true, true, true, true, true, true, false, false, false, false, false, false, false, false, false, false, false, false, false, false] rfl rfl (by kernel_rfl) (fun _ _ _ h => h) (Or.inr ⟨by rfl, rfl⟩) ?_ ?_
        rotate_left
        · simp only [Act.put, List.setIfInBounds_toArray, List.set_cons_zero, List.set_cons_succ, i64_w, i32_w]
          rfl
        refine pure_ (i := 16) (N := some 172) (v := undef) (a' := ?_) #[true, true, true, true, true, true, true, true, true, true, true, true, true, true, true, true, true, false, false, false, false, false, false, false, false, false, false, false, false, false] rfl rfl (by kernel_rfl) (fun _ _ _ h => h) (Or.inr ⟨by rfl, rfl⟩) ?_ ?_
        rotate_left
        · simp only [Act.put, List.setIfInBounds_toArray, List.set_cons_zero, List.set_cons_succ, i64_w, i32_w]
          rfl
        refine pure_ (i := 17) (N := some 173) (v := undef) (a' := ?_) #[true, true, true, true, true, true, true, true, true, true, true, true, true, true, true, true, true, true, false, false, false, false, false, false, false, false, false, false, false, false] rfl rfl (by kernel_rfl) (fun _ _ _ h => h) (Or.inr ⟨by rfl, rfl⟩) ?_ ?_
        rotate_left
        · simp only [Act.put, List.setIfInBounds_toArray, List.set_cons_zero, List.set_cons_succ, i64_w, i32_w]
          rfl
        refine pure_ (i := 18) (N := some 174) (v := undef) (a' := ?_) #[true, true, true, true, true, true, true, true, true, true, true, true, true, true, true, true, true, true, true, false, false, false, false, false, false, false, false, false, false, false] rfl rfl (by kernel_rfl) (fun _ _ _ h => h) (Or.inr ⟨by rfl, rfl⟩) ?_ ?_
        rotate_left
        · simp only [Act.put, List.setIfInBounds_toArray, List.set_cons_zero, List.set_cons_succ, i64_w, i32_w]
          rfl
        refine pure_ (i := 19) (N := some 175) (v := undef) (a' := ?_) #[true, true, true, true, true, true, true, true, true, true, true, true, true, true, true, true, true, true, true, true, false, false, false, false, false, false, false, false, false, false] rfl rfl (by kernel_rfl) (fun _ _ _ h => h) (Or.inr ⟨by rfl, rfl⟩) ?_ ?_
        rotate_left
        · simp only [Act.put, List.setIfInBounds_toArray, List.set_cons_zero, List.set_cons_succ, i64_w, i32_w]
          rfl
        refine pure_ (i := 20) (N := some 176) (v := undef) (a' := ?_) #[true, true, true, true, true, true, true, true, true, true, true, true, true, true, true, true, true, true, true, true, true, false, false, false, false, false, false, false, false, false] rfl rfl (by kernel_rfl) (fun _ _ _ h => h) (Or.inr ⟨by rfl, rfl⟩) ?_ ?_
        rotate_left
        · simp only [Act.put, List.setIfInBounds_toArray, List.set_cons_zero, List.set_cons_succ, i64_w, i32_w]
          rfl
        refine pure_ (i := 21) (N := some 177) (v := undef) (a' := ?_) #[true, true, true, true, true, true, true, true, true, true, true, true, true, true, true, true, true, true, true, true, true, true, false, false, false, false, false, false, false, false] rfl rfl (by kernel_rfl) (fun _ _ _ h => h) (Or.inr ⟨by rfl, rfl⟩) ?_ ?_
        rotate_left
        · simp only [Act.put, List.setIfInBounds_toArray, List.set_cons_zero, List.set_cons_succ, i64_w, i32_w]
          rfl
        refine pure_ (i := 22) (N := some 178) (v := undef) (a' := ?_) #[true, true, true, true, true, true, true, true, true, true, true, true, true, true, true, true, true, true, true, true, true, true, true, false, false, false, false, false, false, false] rfl rfl (by kernel_rfl) (fun _ _ _ h => h) (Or.inr ⟨by rfl, rfl⟩) ?_ ?_
        rotate_left
        · simp only [Act.put, List.setIfInBounds_toArray, List.set_cons_zero, List.set_cons_succ, i64_w, i32_w]
          rfl
        refine pure_ (i := 23) (N := some 179) (v := undef) (a' := ?_) #[true, true, true, true, true, true, true, true, true, true, true, true, true, true, true, true, true, true, true, true, true, true, true, true, false, false, false, false, false, false] rfl rfl (by kernel_rfl) (fun _ _ _ h => h) (Or.inr ⟨by rfl, rfl⟩) ?_ ?_
        rotate_left
        · simp only [Act.put, List.setIfInBounds_toArray, List.set_cons_zero, List.set_cons_succ, i64_w, i32_w]
          rfl
        refine pure_ (i := 24) (N := some 180) (v := undef) (a' := ?_) #[true, true, true, true, true, true, true, true, true, true, true, true, true, true, true, true, true, true, true, true, true, true, true, true, true, false, false, false, false, false] rfl rfl (by kernel_rfl) (fun _ _ _ h => h) (Or.inr ⟨by rfl, rfl⟩) ?_ ?_
        rotate_left
        · simp only [Act.put, List.setIfInBounds_toArray, List.set_cons_zero, List.set_cons_succ, i64_w, i32_w]
          rfl
        refine pure_ (i := 25) (N := some 181) (v := undef) (a' := ?_) #[true, true, true, true, true, true, true, true, true, true, true, true, true, true, true, true, true, true, true, true, true, true, true, true, true, true, false, false, false, false] rfl rfl (by kernel_rfl) (fun _ _ _ h => h) (Or.inr ⟨by rfl, rfl⟩) ?_ ?_
        rotate_left
        · simp only [Act.put, List.setIfInBounds_toArray, List.set_cons_zero, List.set_cons_succ, i64_w, i32_w]
          rfl
        refine pure_ (i := 26) (N := some 182) (v := undef) (a' := ?_) #[true, true, true, true, true, true, true, true, true, true, true, true, true, true, true, true, true, true, true, true, true, true, true, true, true, true, true, false, false, false] rfl rfl (by kernel_rfl) (fun _ _ _ h => h) (Or.inr ⟨by rfl, rfl⟩) ?_ ?_
        rotate_left
        · simp only [Act.put, List.setIfInBounds_toArray, List.set_cons_zero, List.set_cons_succ, i64_w, i32_w]
          rfl
        refine pure_ (i := 27) (N := some 183) (v := undef) (a' := ?_) #[true, true, true, true, true, true, true, true, true, true, true, true, true, true, true, true, true, true, true, true, true, true, true, true, true, true, true, true, false, false] rfl rfl (by kernel_rfl) (fun _ _ _ h => h) (Or.inr ⟨by rfl, rfl⟩) ?_ ?_
        rotate_left
        · simp only [Act.put, List.setIfInBounds_toArray, List.set_cons_zero, List.set_cons_succ, i64_w, i32_w]
          rfl
        refine pure_ (i := 28) (N := some 184) (v := undef) (a' := ?_) #[true, true, true, true, true, true, true, true, true, true, true, true, true, true, true, true, true, true, true, true, true, true, true, true, true, true, true, true, true, false] rfl rfl (by kernel_rfl) (fun _ _ _ h => h) (Or.inr ⟨by rfl, rfl⟩) ?_ ?_
        rotate_left
        · simp only [Act.put, List.setIfInBounds_toArray, List.set_cons_zero, List.set_cons_succ, i64_w, i32_w]
          rfl
        refine rgp 29 185 ?_
        refine done_ (by kernel_rfl) ?_
        simp only [Exit.inBlock, Exit.then]
        go_wp2
        go_ret
        exact ⟨by rw [HM.out, HT0.out, HT1.out, HT2.out, HT3.out, show r.f9.all rowTB = false from List.all_eq_false.2 ⟨x, List.mem_of_getElem? HX.out, by simp [HRB.out]⟩]; rfl, M.out.below⟩
      have tA : decide (x.f0 < 1) = false := decide_eq_false (by omega)
      cases hn : [x.f0, x.f1, x.f2].all isNum with
      | false =>
        have HN_ := Aside0.mk hn
        have HRB := Aside0.mk (show rowTB x = false by unfold rowTB; rw [hn, Bool.and_false])
        clear hf hn hlt
        refine start_ (n := 30) (S := fun w' => w'.cell? ⟨w.heap.size, 9, none⟩ = some (.slice (some ad) r.f9.length c9) ∧ w'.cell? (ad.add (k * 3)) = some (.int .i64 x.f0) ∧ w'.cell? ⟨(ad.add (k * 3)).block, (ad.add (k * 3)).off + 1, none⟩ = some (.int .i64 x.f1) ∧ w'.cell? ⟨(ad.add (k * 3)).block, (ad.add (k * 3)).off + 2, none⟩ = some (.int .i64 x.f2)) (ds := []) #[false, false, false, false, false, false, false, false, false, false, false, false, false, false, false, false, false, false, false, false, false, false, false, false, false, false, false, false, false, false] (by kernel_rfl) rfl rfl ⟨q9, x0, x1, x2⟩ (fun hHeld => ?_)
        refine rgp 0 156 ?_
        refine rgp 2 158 ?_
        refine rgt 1 157 hHeld ?_
        refine rgp 3 159 ?_
        refine rgp 4 160 ?_
        refine rgt 5 161 hHeld ?_
        refine rgp 6 162 ?_
        refine rgp 7 163 ?_
        refine rgp 8 164 ?_
        refine rgp 10 166 ?_
        refine rgp 14 170 ?_
        refine rgp 16 172 ?_
        refine rgp 20 176 ?_
        refine rgp 22 178 ?_
        refine rgt 9 165 hHeld ?_
        refine rgp 11 167 ?_
        refine rgp 12 168 ?_
        refine rgt 13 169 hHeld ?_
        refine rgt 15 171 hHeld ?_
        refine rgp 17 173 ?_
        refine rgp 18 174 ?_
        refine rgt 19 175 hHeld ?_
        refine rgt 21 177 hHeld ?_
        refine rgp 23 179 ?_
        refine rgp 24 180 ?_
        refine rgt 25 181 hHeld ?_
        refine one_ (i := 26) (N := some 182) #[true, true, true, true, true, true, true, true, true, true, true, true, true, true, true, true, true, true, true, true, true, true, true, true, true, true, true, false, false, false] rfl rfl (by kernel_rfl) (by decide) (fun K hK => ?_)
        generalize wr.drew = X0_ at *
        refine value_ (w1 := ?_) (v := ?_) (by kernel_rfl) rfl ?_ ?_
        rotate_left 2
        · go_simp
          constructor
          · rfl
          · rfl
        have hb_ := (Below.refl X0_.heap.size X0_).alloc (Nat.le_refl _) (.cells #[.int .i64 x.f0, .int .i64 x.f1, .int .i64 x.f2] TI)
        have M_n := Aside0.mk (M.out.next hb_)
        clear M
        have M := M_n
        clear M_n
        refine hK _ _ ⟨blk_cell M.out.b0.at 9, pw_cell_below hb_ hHeld.2.1, pw_cell_below hb_ hHeld.2.2.1, pw_cell_below hb_ hHeld.2.2.2⟩ (fun hHeld => ?_)
        clear hK K
        refine norm_ (a' := ?_) ?_ ?_
        rotate_left
        · show Act.put _ (some 182) _ = _
          simp only [Act.put, List.setIfInBounds_toArray, List.set_cons_zero, List.set_cons_succ, i64_w, i32_w]
          rfl
        refine one_ (i := 27) (N := some 183) #[true, true, true, true, true, true, true, true, true, true, true, true, true, true, true, true, true, true, true, true, true, true, true, true, true, true, true, true, false, false] rfl rfl (by kernel_rfl) (by decide) (fun K hK => ?_)
        refine goes_ Try.func56 (by kernel_rfl) rfl #[.slice (some ⟨X0_.heap.size, 0, none⟩) 3 3] (by rfl) rfl rfl (by (try simp only [List.map_toArray, List.map_cons, List.map_nil]); first | done | rfl) ?_
        refine (rnum3 x.f0 x.f1 x.f2 X0_).mono ?_
        rintro e v1_ ⟨rfl, hb2_⟩
        rw [HN_.out]
        refine ⟨_, rfl, ?_⟩
        have M_n := Aside0.mk (M.out.next hb2_)
        clear M
        have M := M_n
        clear M_n
        refine hK _ _ ⟨blk_cell M.out.b0.at 9, pw_cell_below hb2_ hHeld.2.1, pw_cell_below hb2_ hHeld.2.2.1, pw_cell_below hb2_ hHeld.2.2.2⟩ (fun hHeld => ?_)
        clear hK K hb_ hb2_
        refine norm_ (a' := ?_) ?_ ?_
        rotate_left
        · show Act.put _ (some 183) _ = _
          simp only [Act.put, List.setIfInBounds_toArray, List.set_cons_zero, List.set_cons_succ, i64_w, i32_w]
          rfl
        refine rgp 28 184 ?_
        refine rgp 29 185 ?_
        refine done_ (by kernel_rfl) ?_
        simp only [Exit.inBlock, Exit.then]
        go_wp2
        go_ret
        exact ⟨by rw [HM.out, HT0.out, HT1.out, HT2.out, HT3.out, show r.f9.all rowTB = false from List.all_eq_false.2 ⟨x, List.mem_of_getElem? HX.out, by simp [HRB.out]⟩]; rfl, M.out.below⟩
      | true =>
      have HN_ := Aside0.mk hn
      have HRB := Aside0.mk (show rowTB x = true by unfold rowTB; rw [hn, decide_eq_true hf]; rfl)
      clear hf hn
      refine start_ (n := 30) (S := fun w' => w'.cell? ⟨w.heap.size, 9, none⟩ = some (.slice (some ad) r.f9.length c9) ∧ w'.cell? (ad.add (k * 3)) = some (.int .i64 x.f0) ∧ w'.cell? ⟨(ad.add (k * 3)).block, (ad.add (k * 3)).off + 1, none⟩ = some (.int .i64 x.f1) ∧ w'.cell? ⟨(ad.add (k * 3)).block, (ad.add (k * 3)).off + 2, none⟩ = some (.int .i64 x.f2)) (ds := []) #[false, false, false, false, false, false, false, false, false, false, false, false, false, false, false, false, false, false, false, false, false, false, false, false, false, false, false, false, false, false] (by kernel_rfl) rfl rfl ⟨q9, x0, x1, x2⟩ (fun hHeld => ?_)
      refine rgp 0 156 ?_
      refine rgp 2 158 ?_
      refine rgt 1 157 hHeld ?_
      refine rgp 3 159 ?_
      refine rgp 4 160 ?_
      refine rgt 5 161 hHeld ?_
      refine rgp 6 162 ?_
      refine rgp 7 163 ?_
      refine rgp 8 164 ?_
      refine rgp 10 166 ?_
      refine rgp 14 170 ?_
      refine rgp 16 172 ?_
      refine rgp 20 176 ?_
      refine rgp 22 178 ?_
      refine rgt 9 165 hHeld ?_
      refine rgp 11 167 ?_
      refine rgp 12 168 ?_
      refine rgt 13 169 hHeld ?_
      refine rgt 15 171 hHeld ?_
      refine rgp 17 173 ?_
      refine rgp 18 174 ?_
      refine rgt 19 175 hHeld ?_
      refine rgt 21 177 hHeld ?_
      refine rgp 23 179 ?_
      refine rgp 24 180 ?_
      refine rgt 25 181 hHeld ?_
      refine one_ (i := 26) (N := some 182) #[true, true, true, true, true, true, true, true, true, true, true, true, true, true, true, true, true, true, true, true, true, true, true, true, true, true, true, false, false, false] rfl rfl (by kernel_rfl) (by decide) (fun K hK => ?_)
      generalize wr.drew = X0_ at *
      refine value_ (w1 := ?_) (v := ?_) (by kernel_rfl) rfl ?_ ?_
      rotate_left 2
      · go_simp
        constructor
        · rfl
        · rfl
      have hb_ := (Below.refl X0_.heap.size X0_).alloc (Nat.le_refl _) (.cells #[.int .i64 x.f0, .int .i64 x.f1, .int .i64 x.f2] TI)
      have M_n := Aside0.mk (M.out.next hb_)
      clear M
      have M := M_n
      clear M_n
      refine hK _ _ ⟨blk_cell M.out.b0.at 9, pw_cell_below hb_ hHeld.2.1, pw_cell_below hb_ hHeld.2.2.1, pw_cell_below hb_ hHeld.2.2.2⟩ (fun hHeld => ?_)
      clear hK K
      refine norm_ (a' := ?_) ?_ ?_
      rotate_left
      · show Act.put _ (some 182) _ = _
        simp only [Act.put, List.setIfInBounds_toArray, List.set_cons_zero, List.set_cons_succ, i64_w, i32_w]
        rfl
      refine one_ (i := 27) (N := some 183) #[true, true, true, true, true, true, true, true, true, true, true, true, true, true, true, true, true, true, true, true, true, true, true, true, true, true, true, true, false, false] rfl rfl (by kernel_rfl) (by decide) (fun K hK => ?_)
      refine goes_ Try.func56 (by kernel_rfl) rfl #[.slice (some ⟨X0_.heap.size, 0, none⟩) 3 3] (by rfl) rfl rfl (by (try simp only [List.map_toArray, List.map_cons, List.map_nil]); first | done | rfl) ?_
      refine (rnum3 x.f0 x.f1 x.f2 X0_).mono ?_
      rintro e v1_ ⟨rfl, hb2_⟩
      rw [HN_.out]
      refine ⟨_, rfl, ?_⟩
      have M_n := Aside0.mk (M.out.next hb2_)
      clear M
      have M := M_n
      clear M_n
      refine hK _ _ ⟨blk_cell M.out.b0.at 9, pw_cell_below hb2_ hHeld.2.1, pw_cell_below hb2_ hHeld.2.2.1, pw_cell_below hb2_ hHeld.2.2.2⟩ (fun hHeld => ?_)
      clear hK K hb_ hb2_
      refine norm_ (a' := ?_) ?_ ?_
      rotate_left
      · show Act.put _ (some 183) _ = _
        simp only [Act.put, List.setIfInBounds_toArray, List.set_cons_zero, List.set_cons_succ, i64_w, i32_w]
        rfl
      refine rgp 28 184 ?_
      refine rgp 29 185 ?_
      refine done_ (by kernel_rfl) ?_
      simp only [Exit.inBlock, Exit.then]
      go_wp2
      (try simp only [hwk])
      refine ⟨⟨k + 1, rfl, ⟨HLT.out⟩, ⟨?_⟩, M⟩, ?_⟩
      · rw [List.take_add_one, HX.out, List.all_append, HA.out]; simp [HRB.out]
      · have := HLT.out
        show r.f9.length - (intOf (.int .i64 ((k + 1 : Nat) : Int))).toNat < r.f9.length - (intOf (.int .i64 (k : Int))).toNat
        simp only [intOf]; omega
    · obtain rfl : k = r.f9.length := by have := K.out; omega
      have HALL9 := Aside0.mk (show r.f9.all rowTB = true by have h := HA.out; rwa [List.take_length] at h)
      clear hlt K HA
      go_upto_region 21 with (fail)
      clear q9
      go_loopw [5] (fun v wr => ∃ k : Nat, v = .int .i64 k ∧ Aside0 (k ≤ r.f10.length) ∧ Aside0 ((r.f10.take k).all rowQB = true) ∧ Aside0 (MY w wr r A9 c9 A10 c10)) (fun v _ => r.f10.length - (intOf v).toNat)
      case atStart => exact ⟨0, rfl, ⟨Nat.zero_le _⟩, ⟨rfl⟩, M⟩
      case round =>
        clear M
        obtain ⟨k, rfl, K, HA, M⟩ := hrel
        have q10 : wr.cell? ⟨w.heap.size, 10, none⟩ = some (.slice A10 r.f10.length c10) := blk_cell M.out.b0.at 10
        by_cases hlt : k < r.f10.length
        · have h1 : (k : Int) < (r.f10.length : Int) := by omega
          have h2 : (0 : Int) ≤ (k : Int) := by omega
          have hwk : wrap64 ((k : Int) + 1) = ((k + 1 : Nat) : Int) := by have := M.out.s10; unfold wrap64; omega
          obtain ⟨ad, e_, x0, x1⟩ := at_T109 M.out.r10 k h2 h1
          have HX := Aside0.mk (show r.f10[k]? = some (rd_T109 r.f10 k) by unfold rd_T109; rw [Int.toNat_natCast, List.getD_eq_getElem?_getD, List.getElem?_eq_getElem hlt]; rfl)
          simp only [Int.toNat_natCast] at x0 x1
          subst e_
          generalize rd_T109 r.f10 k = x at *
          have HLT := Aside0.mk hlt
          by_cases hf0 : x.f0 < 0
          · have tA : decide (x.f0 < 0) = true := decide_eq_true hf0
            have HRB := Aside0.mk (show rowQB x = false by unfold rowQB; rw [decide_eq_false (by omega)]; rfl)
            clear hf0 hlt
            go_wp2
            go_ret
            exact ⟨by rw [HM.out, HT0.out, HT1.out, HT2.out, HT3.out, HALL9.out, show r.f10.all rowQB = false from List.all_eq_false.2 ⟨x, List.mem_of_getElem? HX.out, by simp [HRB.out]⟩]; rfl, M.out.below⟩
          have tA : decide (x.f0 < 0) = false := decide_eq_false hf0
          by_cases hf7 : 7 < x.f0
          · have tB : decide (7 < x.f0) = true := decide_eq_true hf7
            have HRB := Aside0.mk (show rowQB x = false by unfold rowQB; rw [decide_eq_false (by omega)]; rfl)
            clear hf0 hf7 hlt
            go_wp2
            go_ret
            exact ⟨by rw [HM.out, HT0.out, HT1.out, HT2.out, HT3.out, HALL9.out, show r.f10.all rowQB = false from List.all_eq_false.2 ⟨x, List.mem_of_getElem? HX.out, by simp [HRB.out]⟩]; rfl, M.out.below⟩
          have tB : decide (7 < x.f0) = false := decide_eq_false hf7
          cases hn : [x.f1].all isNum with
          | false =>
            have HN_ := Aside0.mk hn
            have HRB := Aside0.mk (show rowQB x = false by unfold rowQB; rw [show isNum x.f1 = false by simpa using hn, Bool.and_false])
            clear hf0 hf7 hn hlt
            go_wp2_with (go_at_call 56; (with_reducible refine (rnum1 x.f1 _).mono ?_); rintro e v9 ⟨rfl, hb_⟩; rw [HN_.out]; have M_n := Aside0.mk (M.out.alloc _ hb_); clear hb_ M; have M := M_n; clear M_n)
            go_ret
            exact ⟨by rw [HM.out, HT0.out, HT1.out, HT2.out, HT3.out, HALL9.out, show r.f10.all rowQB = false from List.all_eq_false.2 ⟨x, List.mem_of_getElem? HX.out, by simp [HRB.out]⟩]; rfl, M.out.below⟩
          | true =>
          have HN_ := Aside0.mk hn
          have HRB := Aside0.mk (show rowQB x = true by unfold rowQB; rw [show isNum x.f1 = true by simpa using hn, decide_eq_true (by omega)]; rfl)
          clear hf0 hf7 hn
          go_wp2_with (go_at_call 56; (with_reducible refine (rnum1 x.f1 _).mono ?_); rintro e v9 ⟨rfl, hb_⟩; rw [HN_.out]; have M_n := Aside0.mk (M.out.alloc _ hb_); clear hb_ M; have M := M_n; clear M_n)
          (try simp only [hwk])
          refine ⟨⟨k + 1, rfl, ⟨HLT.out⟩, ⟨?_⟩, M⟩, ?_⟩
          · rw [List.take_add_one, HX.out, List.all_append, HA.out]; simp [HRB.out]
          · have := HLT.out
            show r.f10.length - (intOf (.int .i64 ((k + 1 : Nat) : Int))).toNat < r.f10.length - (intOf (.int .i64 (k : Int))).toNat
            simp only [intOf]; omega
        · obtain rfl : k = r.f10.length := by have := K.out; omega
          have HALL10 := Aside0.mk (show r.f10.all rowQB = true by have h := HA.out; rwa [List.take_length] at h)
          clear hlt K HA
          go_wp2
          go_ret
          exact ⟨by rw [HM.out, HT0.out, HT1.out, HT2.out, HT3.out, HALL9.out, HALL10.out]; rfl, M.out.below⟩
end Go.Proofs.Ytbnglmeljbiglaa.Wr
