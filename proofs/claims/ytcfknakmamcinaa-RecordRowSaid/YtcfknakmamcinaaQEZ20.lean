import Derived.Test.YtcfknakmamcinaaQEZ0
import Derived.Test.YtcfknakmamcinaaQEZ1
import Derived.Test.YtcfknakmamcinaaQEZ2
import Derived.Test.YtcfknakmamcinaaQEZ3
import Derived.Test.YtcfknakmamcinaaQEZ4
import Derived.Test.YtcfknakmamcinaaQEZ5
import Derived.Test.YtcfknakmamcinaaQEZ6
import Derived.Test.YtcfknakmamcinaaQEZ7
import Derived.Test.YtcfknakmamcinaaQEZ8
import Derived.Test.YtcfknakmamcinaaQEZ9
import Derived.Test.YtcfknakmamcinaaQEZ10
import Derived.Test.YtcfknakmamcinaaQEZ11
import Derived.Test.YtcfknakmamcinaaQEZ12
import Derived.Test.YtcfknakmamcinaaQEZ13
import Derived.Test.YtcfknakmamcinaaQEZ14
import Derived.Test.YtcfknakmamcinaaQEZ15
import Derived.Test.YtcfknakmamcinaaQEZ16
-- Written by this session's xprint.py (the kit's print, with contracts proved by hand).
namespace Go.Proofs.Ytcfknakmamcinaa.X4b
open Go.Proofs.Ytcfknakmamcinaa.X4 Go.RowKit Go.Proofs.YtcfknakmamcinaaW.PrintWords Go.Proofs.YtcfknakmamcinaaW.PrintLast Go.Proofs.YtcfknakmamcinaaW.PrintMore
attribute [local go_sem] max2_int min2_int max_two min_two max_three min_three max_four min_four   -- for this text's walks alone
set_option linter.unusedVariables false
set_option linter.unusedSimpArgs false
def careenref04_SameAll.l0 : Nat → List (S49) → List (S49) → Int → Option (Bool)
  | 0, _, _, _ => none
  | k + 1, x0, x1, x5 => if x5 < (x0.length : Int) then (if 0 ≤ x5 then (if x5 < (x1.length : Int) then (if ((rd_T49 x0 x5).f0) = ((rd_T49 x1 x5).f0) then ((careenref04_Same.f ((rd_T49 x0 x5).f1.f0) ((rd_T49 x0 x5).f1.f1) ((rd_T49 x0 x5).f1.f2) ((rd_T49 x0 x5).f1.f3) ((rd_T49 x0 x5).f1.f4) ((rd_T49 x0 x5).f1.f5) ((rd_T49 x0 x5).f1.f6) ((rd_T49 x0 x5).f1.f7) ((rd_T49 x0 x5).f1.f8) ((rd_T49 x0 x5).f1.f9) ((rd_T49 x0 x5).f1.f10) ((rd_T49 x1 x5).f1.f0) ((rd_T49 x1 x5).f1.f1) ((rd_T49 x1 x5).f1.f2) ((rd_T49 x1 x5).f1.f3) ((rd_T49 x1 x5).f1.f4) ((rd_T49 x1 x5).f1.f5) ((rd_T49 x1 x5).f1.f6) ((rd_T49 x1 x5).f1.f7) ((rd_T49 x1 x5).f1.f8) ((rd_T49 x1 x5).f1.f9) ((rd_T49 x1 x5).f1.f10)).bind fun t292 => (if t292 = true then (careenref04_SameAll.l0 k x0 x1 (wrap64 (x5 + 1))) else (some false))) else (some false)) else (none)) else (none)) else (some true)
def careenref04_SameAll.f (k : Nat) (l0 : List (S49)) (l1 : List (S49)) : Option (Bool) := if (l0.length : Int) = (l1.length : Int) then (careenref04_SameAll.l0 k l0 l1 0) else (some false)
def careenref04_SameAll.T6 : Bool × List (List Nat × List Nat) := (true, [([], []), ([], []), ([0, 1], [0, 1]), ([2], [2]), ([3], [3]), ([], []), ([], []), ([5, 6], [5, 6]), ([7], [7]), ([8], [8]), ([4, 9], [4, 9]), ([10], [10]), ([11], [11]), ([11], [11]), ([12, 13, 11], [11, 12, 13]), ([14, 11], [11, 14]), ([15, 11], [11, 15]), ([11], [11]), ([11], [11]), ([17, 18, 11], [11, 17, 18]), ([19, 11], [11, 19]), ([20, 11], [11, 20]), ([16, 21, 11, 11], [11, 16, 21]), ([22, 11], [11, 22]), ([11, 23], [11, 23])])
def careenref04_SameAll.B6 : List Nat := [0, 0, 3, 7, 15, 0, 0, 96, 224, 480, 1023, 2047, 4095, 4095, 16383, 32767, 65535, 4095, 4095, 397311, 921599, 1970175, 4194303, 8388607, 16777215]
theorem careenref04_SameAll.tab6 : rtab .any (opsOf Try.f22 6) = careenref04_SameAll.T6 := by kernel_rfl
theorem careenref04_SameAll.bits6 : waitsOk careenref04_SameAll.T6.2 careenref04_SameAll.B6 = true := by kernel_rfl
set_option maxHeartbeats 8000000 in
set_option maxRecDepth 100000 in
theorem careenref04_SameAll.calls (k : Nat) (A0 : Option Addr) (c0 : Nat) (l0 : List (S49)) (A1 : Option Addr) (c1 : Nat) (l1 : List (S49)) (r : Bool) (w : World) (hr0 : Kd.C k49 w A0 l0.length l0) (hc0 : l0.length ≤ c0) (hr1 : Kd.C k49 w A1 l1.length l1) (hc1 : l1.length ≤ c1) (h : careenref04_SameAll.f k l0 l1 = some r) :
    Calls Try.prog 22 #[.slice A0 l0.length c0, .slice A1 l1.length c1] w fun e w' => e = .returned (.bool r) ∧ Below w.heap.size w w' := by
  have hu25 := Try.underlying25
  have HR0 := Aside0.mk hr0
  have HC0 := Aside0.mk hc0
  clear hr0 hc0
  have HR1 := Aside0.mk hr1
  have HC1 := Aside0.mk hc1
  clear hr1 hc1
  have HB := Aside0.mk (Below.refl w.heap.size w)
  have H : (if (l0.length : Int) = (l1.length : Int) then (careenref04_SameAll.l0 k l0 l1 0) else (some false)) = some r := h
  clear h
  by_cases c3 : (l0.length : Int) = (l1.length : Int)
  · rw [if_pos c3] at H
    have c3b0 : ((l0.length : Int) == (l1.length : Int)) = true := beq_iff_eq.mpr c3
    have c3b1 : ((l0.length : Int) != (l1.length : Int)) = false := bne_eq_false_iff_eq.mpr c3
    have c3b2 : (l0.length == l1.length) = true := by first | simpa using c3 | (simp at c3 ⊢; omega)
    clear c3
    have H' := Aside0.mk H
    clear H
    go_enter Try.func22, Try.ntmps22
    go_wp2
    go_loopg [5] k (fun kq v5 w' => ∃ (x5_1 : Int), v5 = .int .i64 x5_1 ∧ Aside0 (careenref04_SameAll.l0 kq l0 l1 x5_1 = some r) ∧ Aside0 (kq ≤ k) ∧ Aside0 (Below w.heap.size w w'))
    case atStart => exact ⟨(0), (by first | rfl | (simp; done) | (simp [*]; done)), H', ⟨Nat.le_refl _⟩, ⟨by repeat (first | (with_reducible first | exact HB.out | apply below_alloc | apply pw_below_drewN | apply below_drew1) | exact HB.out)⟩⟩
    case round =>
      clear H'
      try clear c1
      try clear c2
      try clear p2
      try clear c3
      try clear c3b0
      try clear c3b1
      try clear c3b2
      obtain ⟨x5_1, rfl, HA, HK1, HB⟩ := hrel
      cases gk with
      | zero => exact nomatch (show none = some _ from HA.out)
      | succ k1 =>
        have H := HA.out
        clear HA
        simp only [careenref04_SameAll.l0] at H
        by_cases c4 : x5_1 < (l0.length : Int)
        · rw [if_pos c4] at H
          have c4b0 : decide (x5_1 < (l0.length : Int)) = true := decide_eq_true c4
          clear c4
          by_cases c5 : 0 ≤ x5_1
          · rw [if_pos c5] at H
            have c5b0 : decide (0 ≤ x5_1) = true := decide_eq_true c5
            clear c5
            by_cases c6 : x5_1 < (l1.length : Int)
            · rw [if_pos c6] at H
              have c6b0 : decide (x5_1 < (l1.length : Int)) = true := decide_eq_true c6
              clear c6
              by_cases c7 : ((rd_T49 l0 x5_1).f0) = ((rd_T49 l1 x5_1).f0)
              · rw [if_pos c7] at H
                have c7b0 : (((rd_T49 l0 x5_1).f0) == ((rd_T49 l1 x5_1).f0)) = true := beq_iff_eq.mpr c7
                have c7b1 : (((rd_T49 l0 x5_1).f0) != ((rd_T49 l1 x5_1).f0)) = false := bne_eq_false_iff_eq.mpr c7
                clear c7
                replace H := Option.bind_eq_some_iff.mp H
                obtain ⟨t292, A80, H⟩ := H
                replace H : (if t292 = true then (careenref04_SameAll.l0 k1 l0 l1 (wrap64 (x5_1 + 1))) else (some false)) = some r := H
                have A8 := Aside0.mk A80
                clear A80
                by_cases c9 : t292 = true
                · subst c9
                  have H1 : (careenref04_SameAll.l0 k1 l0 l1 (wrap64 (x5_1 + 1))) = some r := by rw [if_pos rfl] at H; exact H
                  clear H
                  have H := H1
                  clear H1
                  have H' := Aside0.mk H
                  clear H
                  try go_wp2
                  have n0_ := Aside0.mk (below_drew1 HB.out)
                  clear HB
                  have HB := n0_
                  clear n0_
                  have p288 : 0 ≤ (x5_1 : Int) := of_decide_eq_true (by first | (with_reducible assumption) | assumption)
                  have q288 : x5_1 < (l0.length : Int) := of_decide_eq_true (by first | (with_reducible assumption) | assumption)
                  obtain ⟨ad288, A288_10, c288_10, A288_11, c288_11, e288, hx288_0, hx288_1, hx288_2, hx288_3, hx288_4, hx288_5, hx288_6, hx288_7, hx288_8, hx288_9, hx288_10, hx288_11, hl288_10, hi288_10, hl288_11, hi288_11⟩ := at_T49 HR0.out x5_1 p288 q288
                  have hw288_11 := hx288_11
                  have hw288_10 := hx288_10
                  have hw288_9 := hx288_9
                  have hw288_8 := hx288_8
                  have hw288_7 := hx288_7
                  have hw288_6 := hx288_6
                  have hw288_5 := hx288_5
                  have hw288_4 := hx288_4
                  have hw288_3 := hx288_3
                  have hw288_2 := hx288_2
                  have hw288_1 := hx288_1
                  have hw288_0 := hx288_0
                  cases e288
                  replace hx288_0 := (HB.out.cell (World.block_lt_of_cell? w _ hx288_0)).trans hx288_0
                  replace hx288_1 := (HB.out.cell (World.block_lt_of_cell? w _ hx288_1)).trans hx288_1
                  replace hx288_2 := (HB.out.cell (World.block_lt_of_cell? w _ hx288_2)).trans hx288_2
                  replace hx288_3 := (HB.out.cell (World.block_lt_of_cell? w _ hx288_3)).trans hx288_3
                  replace hx288_4 := (HB.out.cell (World.block_lt_of_cell? w _ hx288_4)).trans hx288_4
                  replace hx288_5 := (HB.out.cell (World.block_lt_of_cell? w _ hx288_5)).trans hx288_5
                  replace hx288_6 := (HB.out.cell (World.block_lt_of_cell? w _ hx288_6)).trans hx288_6
                  replace hx288_7 := (HB.out.cell (World.block_lt_of_cell? w _ hx288_7)).trans hx288_7
                  replace hx288_8 := (HB.out.cell (World.block_lt_of_cell? w _ hx288_8)).trans hx288_8
                  replace hx288_9 := (HB.out.cell (World.block_lt_of_cell? w _ hx288_9)).trans hx288_9
                  replace hx288_10 := (HB.out.cell (World.block_lt_of_cell? w _ hx288_10)).trans hx288_10
                  replace hx288_11 := (HB.out.cell (World.block_lt_of_cell? w _ hx288_11)).trans hx288_11
                  have HR288_10 := Aside0.mk hi288_10
                  have HC288_10 := Aside0.mk hl288_10
                  clear hi288_10 hl288_10
                  have HR288_11 := Aside0.mk hi288_11
                  have HC288_11 := Aside0.mk hl288_11
                  clear hi288_11 hl288_11
                  replace p288 := eq_true p288
                  replace q288 := eq_true q288
                  have p289 : 0 ≤ (x5_1 : Int) := of_decide_eq_true (by first | (with_reducible assumption) | assumption)
                  have q289 : x5_1 < (l1.length : Int) := of_decide_eq_true (by first | (with_reducible assumption) | assumption)
                  obtain ⟨ad289, A289_10, c289_10, A289_11, c289_11, e289, hx289_0, hx289_1, hx289_2, hx289_3, hx289_4, hx289_5, hx289_6, hx289_7, hx289_8, hx289_9, hx289_10, hx289_11, hl289_10, hi289_10, hl289_11, hi289_11⟩ := at_T49 HR1.out x5_1 p289 q289
                  have hw289_11 := hx289_11
                  have hw289_10 := hx289_10
                  have hw289_9 := hx289_9
                  have hw289_8 := hx289_8
                  have hw289_7 := hx289_7
                  have hw289_6 := hx289_6
                  have hw289_5 := hx289_5
                  have hw289_4 := hx289_4
                  have hw289_3 := hx289_3
                  have hw289_2 := hx289_2
                  have hw289_1 := hx289_1
                  have hw289_0 := hx289_0
                  cases e289
                  replace hx289_0 := (HB.out.cell (World.block_lt_of_cell? w _ hx289_0)).trans hx289_0
                  replace hx289_1 := (HB.out.cell (World.block_lt_of_cell? w _ hx289_1)).trans hx289_1
                  replace hx289_2 := (HB.out.cell (World.block_lt_of_cell? w _ hx289_2)).trans hx289_2
                  replace hx289_3 := (HB.out.cell (World.block_lt_of_cell? w _ hx289_3)).trans hx289_3
                  replace hx289_4 := (HB.out.cell (World.block_lt_of_cell? w _ hx289_4)).trans hx289_4
                  replace hx289_5 := (HB.out.cell (World.block_lt_of_cell? w _ hx289_5)).trans hx289_5
                  replace hx289_6 := (HB.out.cell (World.block_lt_of_cell? w _ hx289_6)).trans hx289_6
                  replace hx289_7 := (HB.out.cell (World.block_lt_of_cell? w _ hx289_7)).trans hx289_7
                  replace hx289_8 := (HB.out.cell (World.block_lt_of_cell? w _ hx289_8)).trans hx289_8
                  replace hx289_9 := (HB.out.cell (World.block_lt_of_cell? w _ hx289_9)).trans hx289_9
                  replace hx289_10 := (HB.out.cell (World.block_lt_of_cell? w _ hx289_10)).trans hx289_10
                  replace hx289_11 := (HB.out.cell (World.block_lt_of_cell? w _ hx289_11)).trans hx289_11
                  have HR289_10 := Aside0.mk hi289_10
                  have HC289_10 := Aside0.mk hl289_10
                  clear hi289_10 hl289_10
                  have HR289_11 := Aside0.mk hi289_11
                  have HC289_11 := Aside0.mk hl289_11
                  clear hi289_11 hl289_11
                  replace p289 := eq_true p289
                  replace q289 := eq_true q289
                  have p290 : 0 ≤ (x5_1 : Int) := of_decide_eq_true (by first | (with_reducible assumption) | assumption)
                  have q290 : x5_1 < (l0.length : Int) := of_decide_eq_true (by first | (with_reducible assumption) | assumption)
                  obtain ⟨ad290, A290_10, c290_10, A290_11, c290_11, e290, hx290_0, hx290_1, hx290_2, hx290_3, hx290_4, hx290_5, hx290_6, hx290_7, hx290_8, hx290_9, hx290_10, hx290_11, hl290_10, hi290_10, hl290_11, hi290_11⟩ := at_T49 HR0.out x5_1 p290 q290
                  have hw290_11 := hx290_11
                  have hw290_10 := hx290_10
                  have hw290_9 := hx290_9
                  have hw290_8 := hx290_8
                  have hw290_7 := hx290_7
                  have hw290_6 := hx290_6
                  have hw290_5 := hx290_5
                  have hw290_4 := hx290_4
                  have hw290_3 := hx290_3
                  have hw290_2 := hx290_2
                  have hw290_1 := hx290_1
                  have hw290_0 := hx290_0
                  obtain rfl : ad288 = ad290 := (by injection e290)
                  replace hx290_0 := (HB.out.cell (World.block_lt_of_cell? w _ hx290_0)).trans hx290_0
                  replace hx290_1 := (HB.out.cell (World.block_lt_of_cell? w _ hx290_1)).trans hx290_1
                  replace hx290_2 := (HB.out.cell (World.block_lt_of_cell? w _ hx290_2)).trans hx290_2
                  replace hx290_3 := (HB.out.cell (World.block_lt_of_cell? w _ hx290_3)).trans hx290_3
                  replace hx290_4 := (HB.out.cell (World.block_lt_of_cell? w _ hx290_4)).trans hx290_4
                  replace hx290_5 := (HB.out.cell (World.block_lt_of_cell? w _ hx290_5)).trans hx290_5
                  replace hx290_6 := (HB.out.cell (World.block_lt_of_cell? w _ hx290_6)).trans hx290_6
                  replace hx290_7 := (HB.out.cell (World.block_lt_of_cell? w _ hx290_7)).trans hx290_7
                  replace hx290_8 := (HB.out.cell (World.block_lt_of_cell? w _ hx290_8)).trans hx290_8
                  replace hx290_9 := (HB.out.cell (World.block_lt_of_cell? w _ hx290_9)).trans hx290_9
                  replace hx290_10 := (HB.out.cell (World.block_lt_of_cell? w _ hx290_10)).trans hx290_10
                  replace hx290_11 := (HB.out.cell (World.block_lt_of_cell? w _ hx290_11)).trans hx290_11
                  have HR290_10 := Aside0.mk hi290_10
                  have HC290_10 := Aside0.mk hl290_10
                  clear hi290_10 hl290_10
                  have HR290_11 := Aside0.mk hi290_11
                  have HC290_11 := Aside0.mk hl290_11
                  clear hi290_11 hl290_11
                  replace p290 := eq_true p290
                  replace q290 := eq_true q290
                  have ea_ := Option.some.inj (hx288_10.symm.trans hx290_10)
                  injection ea_ with ea_ en_ ec_
                  subst ea_
                  subst ec_
                  clear en_
                  have ea_ := Option.some.inj (hx288_11.symm.trans hx290_11)
                  injection ea_ with ea_ en_ ec_
                  subst ea_
                  subst ec_
                  clear en_
                  have p291 : 0 ≤ (x5_1 : Int) := of_decide_eq_true (by first | (with_reducible assumption) | assumption)
                  have q291 : x5_1 < (l1.length : Int) := of_decide_eq_true (by first | (with_reducible assumption) | assumption)
                  obtain ⟨ad291, A291_10, c291_10, A291_11, c291_11, e291, hx291_0, hx291_1, hx291_2, hx291_3, hx291_4, hx291_5, hx291_6, hx291_7, hx291_8, hx291_9, hx291_10, hx291_11, hl291_10, hi291_10, hl291_11, hi291_11⟩ := at_T49 HR1.out x5_1 p291 q291
                  have hw291_11 := hx291_11
                  have hw291_10 := hx291_10
                  have hw291_9 := hx291_9
                  have hw291_8 := hx291_8
                  have hw291_7 := hx291_7
                  have hw291_6 := hx291_6
                  have hw291_5 := hx291_5
                  have hw291_4 := hx291_4
                  have hw291_3 := hx291_3
                  have hw291_2 := hx291_2
                  have hw291_1 := hx291_1
                  have hw291_0 := hx291_0
                  obtain rfl : ad289 = ad291 := (by injection e291)
                  replace hx291_0 := (HB.out.cell (World.block_lt_of_cell? w _ hx291_0)).trans hx291_0
                  replace hx291_1 := (HB.out.cell (World.block_lt_of_cell? w _ hx291_1)).trans hx291_1
                  replace hx291_2 := (HB.out.cell (World.block_lt_of_cell? w _ hx291_2)).trans hx291_2
                  replace hx291_3 := (HB.out.cell (World.block_lt_of_cell? w _ hx291_3)).trans hx291_3
                  replace hx291_4 := (HB.out.cell (World.block_lt_of_cell? w _ hx291_4)).trans hx291_4
                  replace hx291_5 := (HB.out.cell (World.block_lt_of_cell? w _ hx291_5)).trans hx291_5
                  replace hx291_6 := (HB.out.cell (World.block_lt_of_cell? w _ hx291_6)).trans hx291_6
                  replace hx291_7 := (HB.out.cell (World.block_lt_of_cell? w _ hx291_7)).trans hx291_7
                  replace hx291_8 := (HB.out.cell (World.block_lt_of_cell? w _ hx291_8)).trans hx291_8
                  replace hx291_9 := (HB.out.cell (World.block_lt_of_cell? w _ hx291_9)).trans hx291_9
                  replace hx291_10 := (HB.out.cell (World.block_lt_of_cell? w _ hx291_10)).trans hx291_10
                  replace hx291_11 := (HB.out.cell (World.block_lt_of_cell? w _ hx291_11)).trans hx291_11
                  have HR291_10 := Aside0.mk hi291_10
                  have HC291_10 := Aside0.mk hl291_10
                  clear hi291_10 hl291_10
                  have HR291_11 := Aside0.mk hi291_11
                  have HC291_11 := Aside0.mk hl291_11
                  clear hi291_11 hl291_11
                  replace p291 := eq_true p291
                  replace q291 := eq_true q291
                  have ea_ := Option.some.inj (hx289_10.symm.trans hx291_10)
                  injection ea_ with ea_ en_ ec_
                  subst ea_
                  subst ec_
                  clear en_
                  have ea_ := Option.some.inj (hx289_11.symm.trans hx291_11)
                  injection ea_ with ea_ en_ ec_
                  subst ea_
                  subst ec_
                  clear en_
                  refine start_ (n := 25) (S := fun w' => w'.cell? (ad288.add ((x5_1).toNat * 12)) = some (.int .i64 ((rd_T49 l0 x5_1).f0)) ∧ w'.cell? ⟨(ad288.add ((x5_1).toNat * 12)).block, (ad288.add ((x5_1).toNat * 12)).off + 1, none⟩ = some (.int .i64 ((rd_T49 l0 x5_1).f1.f0)) ∧ w'.cell? ⟨(ad288.add ((x5_1).toNat * 12)).block, (ad288.add ((x5_1).toNat * 12)).off + 2, none⟩ = some (.int .i64 ((rd_T49 l0 x5_1).f1.f1)) ∧ w'.cell? ⟨(ad288.add ((x5_1).toNat * 12)).block, (ad288.add ((x5_1).toNat * 12)).off + 3, none⟩ = some (.int .i64 ((rd_T49 l0 x5_1).f1.f2)) ∧ w'.cell? ⟨(ad288.add ((x5_1).toNat * 12)).block, (ad288.add ((x5_1).toNat * 12)).off + 4, none⟩ = some (.int .i64 ((rd_T49 l0 x5_1).f1.f3)) ∧ w'.cell? ⟨(ad288.add ((x5_1).toNat * 12)).block, (ad288.add ((x5_1).toNat * 12)).off + 5, none⟩ = some (.int .i64 ((rd_T49 l0 x5_1).f1.f4)) ∧ w'.cell? ⟨(ad288.add ((x5_1).toNat * 12)).block, (ad288.add ((x5_1).toNat * 12)).off + 6, none⟩ = some (.int .i64 ((rd_T49 l0 x5_1).f1.f5)) ∧ w'.cell? ⟨(ad288.add ((x5_1).toNat * 12)).block, (ad288.add ((x5_1).toNat * 12)).off + 7, none⟩ = some (.int .i64 ((rd_T49 l0 x5_1).f1.f6)) ∧ w'.cell? ⟨(ad288.add ((x5_1).toNat * 12)).block, (ad288.add ((x5_1).toNat * 12)).off + 8, none⟩ = some (.string ((rd_T49 l0 x5_1).f1.f7)) ∧ w'.cell? ⟨(ad288.add ((x5_1).toNat * 12)).block, (ad288.add ((x5_1).toNat * 12)).off + 9, none⟩ = some (.string ((rd_T49 l0 x5_1).f1.f8)) ∧ w'.cell? ⟨(ad288.add ((x5_1).toNat * 12)).block, (ad288.add ((x5_1).toNat * 12)).off + 10, none⟩ = some (.slice A288_10 ((rd_T49 l0 x5_1).f1.f9).length c288_10) ∧ w'.cell? ⟨(ad288.add ((x5_1).toNat * 12)).block, (ad288.add ((x5_1).toNat * 12)).off + 11, none⟩ = some (.slice A288_11 ((rd_T49 l0 x5_1).f1.f10).length c288_11) ∧ w'.cell? (ad289.add ((x5_1).toNat * 12)) = some (.int .i64 ((rd_T49 l1 x5_1).f0)) ∧ w'.cell? ⟨(ad289.add ((x5_1).toNat * 12)).block, (ad289.add ((x5_1).toNat * 12)).off + 1, none⟩ = some (.int .i64 ((rd_T49 l1 x5_1).f1.f0)) ∧ w'.cell? ⟨(ad289.add ((x5_1).toNat * 12)).block, (ad289.add ((x5_1).toNat * 12)).off + 2, none⟩ = some (.int .i64 ((rd_T49 l1 x5_1).f1.f1)) ∧ w'.cell? ⟨(ad289.add ((x5_1).toNat * 12)).block, (ad289.add ((x5_1).toNat * 12)).off + 3, none⟩ = some (.int .i64 ((rd_T49 l1 x5_1).f1.f2)) ∧ w'.cell? ⟨(ad289.add ((x5_1).toNat * 12)).block, (ad289.add ((x5_1).toNat * 12)).off + 4, none⟩ = some (.int .i64 ((rd_T49 l1 x5_1).f1.f3)) ∧ w'.cell? ⟨(ad289.add ((x5_1).toNat * 12)).block, (ad289.add ((x5_1).toNat * 12)).off + 5, none⟩ = some (.int .i64 ((rd_T49 l1 x5_1).f1.f4)) ∧ w'.cell? ⟨(ad289.add ((x5_1).toNat * 12)).block, (ad289.add ((x5_1).toNat * 12)).off + 6, none⟩ = some (.int .i64 ((rd_T49 l1 x5_1).f1.f5)) ∧ w'.cell? ⟨(ad289.add ((x5_1).toNat * 12)).block, (ad289.add ((x5_1).toNat * 12)).off + 7, none⟩ = some (.int .i64 ((rd_T49 l1 x5_1).f1.f6)) ∧ w'.cell? ⟨(ad289.add ((x5_1).toNat * 12)).block, (ad289.add ((x5_1).toNat * 12)).off + 8, none⟩ = some (.string ((rd_T49 l1 x5_1).f1.f7)) ∧ w'.cell? ⟨(ad289.add ((x5_1).toNat * 12)).block, (ad289.add ((x5_1).toNat * 12)).off + 9, none⟩ = some (.string ((rd_T49 l1 x5_1).f1.f8)) ∧ w'.cell? ⟨(ad289.add ((x5_1).toNat * 12)).block, (ad289.add ((x5_1).toNat * 12)).off + 10, none⟩ = some (.slice A289_10 ((rd_T49 l1 x5_1).f1.f9).length c289_10) ∧ w'.cell? ⟨(ad289.add ((x5_1).toNat * 12)).block, (ad289.add ((x5_1).toNat * 12)).off + 11, none⟩ = some (.slice A289_11 ((rd_T49 l1 x5_1).f1.f10).length c289_11) ∧ w'.cell? (ad288.add ((x5_1).toNat * 12)) = some (.int .i64 ((rd_T49 l0 x5_1).f0)) ∧ w'.cell? ⟨(ad288.add ((x5_1).toNat * 12)).block, (ad288.add ((x5_1).toNat * 12)).off + 1, none⟩ = some (.int .i64 ((rd_T49 l0 x5_1).f1.f0)) ∧ w'.cell? ⟨(ad288.add ((x5_1).toNat * 12)).block, (ad288.add ((x5_1).toNat * 12)).off + 2, none⟩ = some (.int .i64 ((rd_T49 l0 x5_1).f1.f1)) ∧ w'.cell? ⟨(ad288.add ((x5_1).toNat * 12)).block, (ad288.add ((x5_1).toNat * 12)).off + 3, none⟩ = some (.int .i64 ((rd_T49 l0 x5_1).f1.f2)) ∧ w'.cell? ⟨(ad288.add ((x5_1).toNat * 12)).block, (ad288.add ((x5_1).toNat * 12)).off + 4, none⟩ = some (.int .i64 ((rd_T49 l0 x5_1).f1.f3)) ∧ w'.cell? ⟨(ad288.add ((x5_1).toNat * 12)).block, (ad288.add ((x5_1).toNat * 12)).off + 5, none⟩ = some (.int .i64 ((rd_T49 l0 x5_1).f1.f4)) ∧ w'.cell? ⟨(ad288.add ((x5_1).toNat * 12)).block, (ad288.add ((x5_1).toNat * 12)).off + 6, none⟩ = some (.int .i64 ((rd_T49 l0 x5_1).f1.f5)) ∧ w'.cell? ⟨(ad288.add ((x5_1).toNat * 12)).block, (ad288.add ((x5_1).toNat * 12)).off + 7, none⟩ = some (.int .i64 ((rd_T49 l0 x5_1).f1.f6)) ∧ w'.cell? ⟨(ad288.add ((x5_1).toNat * 12)).block, (ad288.add ((x5_1).toNat * 12)).off + 8, none⟩ = some (.string ((rd_T49 l0 x5_1).f1.f7)) ∧ w'.cell? ⟨(ad288.add ((x5_1).toNat * 12)).block, (ad288.add ((x5_1).toNat * 12)).off + 9, none⟩ = some (.string ((rd_T49 l0 x5_1).f1.f8)) ∧ w'.cell? ⟨(ad288.add ((x5_1).toNat * 12)).block, (ad288.add ((x5_1).toNat * 12)).off + 10, none⟩ = some (.slice A288_10 ((rd_T49 l0 x5_1).f1.f9).length c288_10) ∧ w'.cell? ⟨(ad288.add ((x5_1).toNat * 12)).block, (ad288.add ((x5_1).toNat * 12)).off + 11, none⟩ = some (.slice A288_11 ((rd_T49 l0 x5_1).f1.f10).length c288_11) ∧ w'.cell? (ad289.add ((x5_1).toNat * 12)) = some (.int .i64 ((rd_T49 l1 x5_1).f0)) ∧ w'.cell? ⟨(ad289.add ((x5_1).toNat * 12)).block, (ad289.add ((x5_1).toNat * 12)).off + 1, none⟩ = some (.int .i64 ((rd_T49 l1 x5_1).f1.f0)) ∧ w'.cell? ⟨(ad289.add ((x5_1).toNat * 12)).block, (ad289.add ((x5_1).toNat * 12)).off + 2, none⟩ = some (.int .i64 ((rd_T49 l1 x5_1).f1.f1)) ∧ w'.cell? ⟨(ad289.add ((x5_1).toNat * 12)).block, (ad289.add ((x5_1).toNat * 12)).off + 3, none⟩ = some (.int .i64 ((rd_T49 l1 x5_1).f1.f2)) ∧ w'.cell? ⟨(ad289.add ((x5_1).toNat * 12)).block, (ad289.add ((x5_1).toNat * 12)).off + 4, none⟩ = some (.int .i64 ((rd_T49 l1 x5_1).f1.f3)) ∧ w'.cell? ⟨(ad289.add ((x5_1).toNat * 12)).block, (ad289.add ((x5_1).toNat * 12)).off + 5, none⟩ = some (.int .i64 ((rd_T49 l1 x5_1).f1.f4)) ∧ w'.cell? ⟨(ad289.add ((x5_1).toNat * 12)).block, (ad289.add ((x5_1).toNat * 12)).off + 6, none⟩ = some (.int .i64 ((rd_T49 l1 x5_1).f1.f5)) ∧ w'.cell? ⟨(ad289.add ((x5_1).toNat * 12)).block, (ad289.add ((x5_1).toNat * 12)).off + 7, none⟩ = some (.int .i64 ((rd_T49 l1 x5_1).f1.f6)) ∧ w'.cell? ⟨(ad289.add ((x5_1).toNat * 12)).block, (ad289.add ((x5_1).toNat * 12)).off + 8, none⟩ = some (.string ((rd_T49 l1 x5_1).f1.f7)) ∧ w'.cell? ⟨(ad289.add ((x5_1).toNat * 12)).block, (ad289.add ((x5_1).toNat * 12)).off + 9, none⟩ = some (.string ((rd_T49 l1 x5_1).f1.f8)) ∧ w'.cell? ⟨(ad289.add ((x5_1).toNat * 12)).block, (ad289.add ((x5_1).toNat * 12)).off + 10, none⟩ = some (.slice A289_10 ((rd_T49 l1 x5_1).f1.f9).length c289_10) ∧ w'.cell? ⟨(ad289.add ((x5_1).toNat * 12)).block, (ad289.add ((x5_1).toNat * 12)).off + 11, none⟩ = some (.slice A289_11 ((rd_T49 l1 x5_1).f1.f10).length c289_11)) (ds := []) #[false, false, false, false, false, false, false, false, false, false, false, false, false, false, false, false, false, false, false, false, false, false, false, false, false] (by kernel_rfl) rfl rfl ⟨((HB.out.cell (World.block_lt_of_cell? w _ hw288_0)).trans hw288_0), ((HB.out.cell (World.block_lt_of_cell? w _ hw288_1)).trans hw288_1), ((HB.out.cell (World.block_lt_of_cell? w _ hw288_2)).trans hw288_2), ((HB.out.cell (World.block_lt_of_cell? w _ hw288_3)).trans hw288_3), ((HB.out.cell (World.block_lt_of_cell? w _ hw288_4)).trans hw288_4), ((HB.out.cell (World.block_lt_of_cell? w _ hw288_5)).trans hw288_5), ((HB.out.cell (World.block_lt_of_cell? w _ hw288_6)).trans hw288_6), ((HB.out.cell (World.block_lt_of_cell? w _ hw288_7)).trans hw288_7), ((HB.out.cell (World.block_lt_of_cell? w _ hw288_8)).trans hw288_8), ((HB.out.cell (World.block_lt_of_cell? w _ hw288_9)).trans hw288_9), ((HB.out.cell (World.block_lt_of_cell? w _ hw288_10)).trans hw288_10), ((HB.out.cell (World.block_lt_of_cell? w _ hw288_11)).trans hw288_11), ((HB.out.cell (World.block_lt_of_cell? w _ hw289_0)).trans hw289_0), ((HB.out.cell (World.block_lt_of_cell? w _ hw289_1)).trans hw289_1), ((HB.out.cell (World.block_lt_of_cell? w _ hw289_2)).trans hw289_2), ((HB.out.cell (World.block_lt_of_cell? w _ hw289_3)).trans hw289_3), ((HB.out.cell (World.block_lt_of_cell? w _ hw289_4)).trans hw289_4), ((HB.out.cell (World.block_lt_of_cell? w _ hw289_5)).trans hw289_5), ((HB.out.cell (World.block_lt_of_cell? w _ hw289_6)).trans hw289_6), ((HB.out.cell (World.block_lt_of_cell? w _ hw289_7)).trans hw289_7), ((HB.out.cell (World.block_lt_of_cell? w _ hw289_8)).trans hw289_8), ((HB.out.cell (World.block_lt_of_cell? w _ hw289_9)).trans hw289_9), ((HB.out.cell (World.block_lt_of_cell? w _ hw289_10)).trans hw289_10), ((HB.out.cell (World.block_lt_of_cell? w _ hw289_11)).trans hw289_11), ((HB.out.cell (World.block_lt_of_cell? w _ hw290_0)).trans hw290_0), ((HB.out.cell (World.block_lt_of_cell? w _ hw290_1)).trans hw290_1), ((HB.out.cell (World.block_lt_of_cell? w _ hw290_2)).trans hw290_2), ((HB.out.cell (World.block_lt_of_cell? w _ hw290_3)).trans hw290_3), ((HB.out.cell (World.block_lt_of_cell? w _ hw290_4)).trans hw290_4), ((HB.out.cell (World.block_lt_of_cell? w _ hw290_5)).trans hw290_5), ((HB.out.cell (World.block_lt_of_cell? w _ hw290_6)).trans hw290_6), ((HB.out.cell (World.block_lt_of_cell? w _ hw290_7)).trans hw290_7), ((HB.out.cell (World.block_lt_of_cell? w _ hw290_8)).trans hw290_8), ((HB.out.cell (World.block_lt_of_cell? w _ hw290_9)).trans hw290_9), ((HB.out.cell (World.block_lt_of_cell? w _ hw290_10)).trans hw290_10), ((HB.out.cell (World.block_lt_of_cell? w _ hw290_11)).trans hw290_11), ((HB.out.cell (World.block_lt_of_cell? w _ hw291_0)).trans hw291_0), ((HB.out.cell (World.block_lt_of_cell? w _ hw291_1)).trans hw291_1), ((HB.out.cell (World.block_lt_of_cell? w _ hw291_2)).trans hw291_2), ((HB.out.cell (World.block_lt_of_cell? w _ hw291_3)).trans hw291_3), ((HB.out.cell (World.block_lt_of_cell? w _ hw291_4)).trans hw291_4), ((HB.out.cell (World.block_lt_of_cell? w _ hw291_5)).trans hw291_5), ((HB.out.cell (World.block_lt_of_cell? w _ hw291_6)).trans hw291_6), ((HB.out.cell (World.block_lt_of_cell? w _ hw291_7)).trans hw291_7), ((HB.out.cell (World.block_lt_of_cell? w _ hw291_8)).trans hw291_8), ((HB.out.cell (World.block_lt_of_cell? w _ hw291_9)).trans hw291_9), ((HB.out.cell (World.block_lt_of_cell? w _ hw291_10)).trans hw291_10), ((HB.out.cell (World.block_lt_of_cell? w _ hw291_11)).trans hw291_11)⟩ (fun hHeld => ?_); refine with_tabW careenref04_SameAll.tab6 careenref04_SameAll.bits6 (fun HT_ HW_ => ?_)
                  generalize wr.drew = w10 at HB HR288_10 HR288_11 HR289_10 HR289_11 HR290_10 HR290_11 HR291_10 HR291_11 hx288_0 hx288_1 hx288_10 hx288_11 hx288_2 hx288_3 hx288_4 hx288_5 hx288_6 hx288_7 hx288_8 hx288_9 hx289_0 hx289_1 hx289_10 hx289_11 hx289_2 hx289_3 hx289_4 hx289_5 hx289_6 hx289_7 hx289_8 hx289_9 hx290_0 hx290_1 hx290_10 hx290_11 hx290_2 hx290_3 hx290_4 hx290_5 hx290_6 hx290_7 hx290_8 hx290_9 hx291_0 hx291_1 hx291_10 hx291_11 hx291_2 hx291_3 hx291_4 hx291_5 hx291_6 hx291_7 hx291_8 hx291_9 hHeld ⊢
                  refine pure_ (i := 0) (N := some 17) (v := ?_) (a' := ?_) #[true, false, false, false, false, false, false, false, false, false, false, false, false, false, false, false, false, false, false, false, false, false, false, false, false] rfl rfl (any_of HT_.out (by kernel_rfl)) (fun _ _ _ h => h) (Or.inl ⟨by rfl, ?_⟩) ?_ ?_
                  rotate_left
                  · intro w'
                    go_simp
                    with_reducible rfl
                  rotate_left
                  · simp only [Act.put, List.setIfInBounds_toArray, List.set_cons_zero, List.set_cons_succ, i64_w, i32_w]
                    rfl
                  refine pure_ (i := 1) (N := some 18) (v := ?_) (a' := ?_) #[true, true, false, false, false, false, false, false, false, false, false, false, false, false, false, false, false, false, false, false, false, false, false, false, false] rfl rfl (any_of HT_.out (by kernel_rfl)) (fun _ _ _ h => h) (Or.inl ⟨by rfl, ?_⟩) ?_ ?_
                  rotate_left
                  · intro w'
                    go_simp
                    with_reducible rfl
                  rotate_left
                  · simp only [Act.put, List.setIfInBounds_toArray, List.set_cons_zero, List.set_cons_succ, i64_w, i32_w]
                    rfl
                  refine pure_ (i := 2) (N := some 19) (v := ?_) (a' := ?_) #[true, true, true, false, false, false, false, false, false, false, false, false, false, false, false, false, false, false, false, false, false, false, false, false, false] rfl rfl (any_of HT_.out (by kernel_rfl)) (fun _ _ _ h => h) (Or.inl ⟨by rfl, ?_⟩) ?_ ?_
                  rotate_left
                  · intro w'
                    go_simp
                    with_reducible rfl
                  rotate_left
                  · simp only [Act.put, List.setIfInBounds_toArray, List.set_cons_zero, List.set_cons_succ, i64_w, i32_w]
                    rfl
                  refine pure_ (i := 3) (N := some 20) (v := ?_) (a' := ?_) #[true, true, true, true, false, false, false, false, false, false, false, false, false, false, false, false, false, false, false, false, false, false, false, false, false] rfl rfl (any_of HT_.out (by kernel_rfl)) (fun _ _ _ h => h) (Or.inl ⟨by rfl, ?_⟩) ?_ ?_
                  rotate_left
                  · intro w'
                    go_simp
                    with_reducible rfl
                  rotate_left
                  · simp only [Act.put, List.setIfInBounds_toArray, List.set_cons_zero, List.set_cons_succ, i64_w, i32_w]
                    rfl
                  refine pure_ (i := 5) (N := some 22) (v := ?_) (a' := ?_) #[true, true, true, true, false, true, false, false, false, false, false, false, false, false, false, false, false, false, false, false, false, false, false, false, false] rfl rfl (any_of HT_.out (by kernel_rfl)) (fun _ _ _ h => h) (Or.inl ⟨by rfl, ?_⟩) ?_ ?_
                  rotate_left
                  · intro w'
                    go_simp
                    with_reducible rfl
                  rotate_left
                  · simp only [Act.put, List.setIfInBounds_toArray, List.set_cons_zero, List.set_cons_succ, i64_w, i32_w]
                    rfl
                  refine pure_ (i := 6) (N := some 23) (v := ?_) (a' := ?_) #[true, true, true, true, false, true, true, false, false, false, false, false, false, false, false, false, false, false, false, false, false, false, false, false, false] rfl rfl (any_of HT_.out (by kernel_rfl)) (fun _ _ _ h => h) (Or.inl ⟨by rfl, ?_⟩) ?_ ?_
                  rotate_left
                  · intro w'
                    go_simp
                    with_reducible rfl
                  rotate_left
                  · simp only [Act.put, List.setIfInBounds_toArray, List.set_cons_zero, List.set_cons_succ, i64_w, i32_w]
                    rfl
                  refine pure_ (i := 7) (N := some 24) (v := ?_) (a' := ?_) #[true, true, true, true, false, true, true, true, false, false, false, false, false, false, false, false, false, false, false, false, false, false, false, false, false] rfl rfl (any_of HT_.out (by kernel_rfl)) (fun _ _ _ h => h) (Or.inl ⟨by rfl, ?_⟩) ?_ ?_
                  rotate_left
                  · intro w'
                    go_simp
                    with_reducible rfl
                  rotate_left
                  · simp only [Act.put, List.setIfInBounds_toArray, List.set_cons_zero, List.set_cons_succ, i64_w, i32_w]
                    rfl
                  refine pure_ (i := 8) (N := some 25) (v := ?_) (a' := ?_) #[true, true, true, true, false, true, true, true, true, false, false, false, false, false, false, false, false, false, false, false, false, false, false, false, false] rfl rfl (any_of HT_.out (by kernel_rfl)) (fun _ _ _ h => h) (Or.inl ⟨by rfl, ?_⟩) ?_ ?_
                  rotate_left
                  · intro w'
                    go_simp
                    with_reducible rfl
                  rotate_left
                  · simp only [Act.put, List.setIfInBounds_toArray, List.set_cons_zero, List.set_cons_succ, i64_w, i32_w]
                    rfl
                  refine take_ (i := 4) (N := some 21) (v := ?_) (a' := ?_) #[true, true, true, true, true, true, true, true, true, false, false, false, false, false, false, false, false, false, false, false, false, false, false, false, false] rfl rfl (take_ofW HT_.out HW_.out (by kernel_rfl)) (fun _ _ _ h => h) (Or.inl ⟨by rfl, ?_⟩) hHeld ?_ ?_
                  rotate_left
                  · rintro w' ⟨s0, s1, s2, s3, s4, s5, s6, s7, s8, s9, s10, s11, s12, s13, s14, s15, s16, s17, s18, s19, s20, s21, s22, s23, s24, s25, s26, s27, s28, s29, s30, s31, s32, s33, s34, s35, s36, s37, s38, s39, s40, s41, s42, s43, s44, s45, s46, s47⟩
                    go_simp
                    with_reducible rfl
                  rotate_left
                  · simp only [Act.put, List.setIfInBounds_toArray, List.set_cons_zero, List.set_cons_succ, i64_w, i32_w]
                    rfl
                  refine take_ (i := 9) (N := some 26) (v := ?_) (a' := ?_) #[true, true, true, true, true, true, true, true, true, true, false, false, false, false, false, false, false, false, false, false, false, false, false, false, false] rfl rfl (take_ofW HT_.out HW_.out (by kernel_rfl)) (fun _ _ _ h => h) (Or.inl ⟨by rfl, ?_⟩) hHeld ?_ ?_
                  rotate_left
                  · rintro w' ⟨s0, s1, s2, s3, s4, s5, s6, s7, s8, s9, s10, s11, s12, s13, s14, s15, s16, s17, s18, s19, s20, s21, s22, s23, s24, s25, s26, s27, s28, s29, s30, s31, s32, s33, s34, s35, s36, s37, s38, s39, s40, s41, s42, s43, s44, s45, s46, s47⟩
                    go_simp
                    with_reducible rfl
                  rotate_left
                  · simp only [Act.put, List.setIfInBounds_toArray, List.set_cons_zero, List.set_cons_succ, i64_w, i32_w]
                    rfl
                  refine pure_ (i := 10) (N := some 27) (v := ?_) (a' := ?_) #[true, true, true, true, true, true, true, true, true, true, true, false, false, false, false, false, false, false, false, false, false, false, false, false, false] rfl rfl (any_of HT_.out (by kernel_rfl)) (fun _ _ _ h => h) (Or.inl ⟨by rfl, ?_⟩) ?_ ?_
                  rotate_left
                  · intro w'
                    go_simp
                    with_reducible rfl
                  rotate_left
                  · simp only [Act.put, List.setIfInBounds_toArray, List.set_cons_zero, List.set_cons_succ, i64_w, i32_w]
                    rfl
                  refine pure_ (i := 11) (N := some 28) (v := ?_) (a' := ?_) #[true, true, true, true, true, true, true, true, true, true, true, true, false, false, false, false, false, false, false, false, false, false, false, false, false] rfl rfl (any_of HT_.out (by kernel_rfl)) (fun _ _ _ h => h) (Or.inl ⟨by rfl, ?_⟩) ?_ ?_
                  rotate_left
                  · intro w'
                    go_simp
                    with_reducible rfl
                  rotate_left
                  · simp only [Act.put, List.setIfInBounds_toArray, List.set_cons_zero, List.set_cons_succ, i64_w, i32_w]
                    rfl
                  refine pure_ (i := 12) (N := some 29) (v := ?_) (a' := ?_) #[true, true, true, true, true, true, true, true, true, true, true, true, true, false, false, false, false, false, false, false, false, false, false, false, false] rfl rfl (any_of HT_.out (by kernel_rfl)) (fun _ _ _ h => h) (Or.inl ⟨by rfl, ?_⟩) ?_ ?_
                  rotate_left
                  · intro w'
                    go_simp
                    with_reducible rfl
                  rotate_left
                  · simp only [Act.put, List.setIfInBounds_toArray, List.set_cons_zero, List.set_cons_succ, i64_w, i32_w]
                    rfl
                  refine pure_ (i := 13) (N := some 30) (v := ?_) (a' := ?_) #[true, true, true, true, true, true, true, true, true, true, true, true, true, true, false, false, false, false, false, false, false, false, false, false, false] rfl rfl (any_of HT_.out (by kernel_rfl)) (fun _ _ _ h => h) (Or.inl ⟨by rfl, ?_⟩) ?_ ?_
                  rotate_left
                  · intro w'
                    go_simp
                    with_reducible rfl
                  rotate_left
                  · simp only [Act.put, List.setIfInBounds_toArray, List.set_cons_zero, List.set_cons_succ, i64_w, i32_w]
                    rfl
                  refine pure_ (i := 14) (N := some 31) (v := ?_) (a' := ?_) #[true, true, true, true, true, true, true, true, true, true, true, true, true, true, true, false, false, false, false, false, false, false, false, false, false] rfl rfl (any_of HT_.out (by kernel_rfl)) (fun _ _ _ h => h) (Or.inl ⟨by rfl, ?_⟩) ?_ ?_
                  rotate_left
                  · intro w'
                    go_simp
                    with_reducible rfl
                  rotate_left
                  · simp only [Act.put, List.setIfInBounds_toArray, List.set_cons_zero, List.set_cons_succ, i64_w, i32_w]
                    rfl
                  refine pure_ (i := 15) (N := some 32) (v := ?_) (a' := ?_) #[true, true, true, true, true, true, true, true, true, true, true, true, true, true, true, true, false, false, false, false, false, false, false, false, false] rfl rfl (any_of HT_.out (by kernel_rfl)) (fun _ _ _ h => h) (Or.inl ⟨by rfl, ?_⟩) ?_ ?_
                  rotate_left
                  · intro w'
                    go_simp
                    with_reducible rfl
                  rotate_left
                  · simp only [Act.put, List.setIfInBounds_toArray, List.set_cons_zero, List.set_cons_succ, i64_w, i32_w]
                    rfl
                  refine pure_ (i := 17) (N := some 34) (v := ?_) (a' := ?_) #[true, true, true, true, true, true, true, true, true, true, true, true, true, true, true, true, false, true, false, false, false, false, false, false, false] rfl rfl (any_of HT_.out (by kernel_rfl)) (fun _ _ _ h => h) (Or.inl ⟨by rfl, ?_⟩) ?_ ?_
                  rotate_left
                  · intro w'
                    go_simp
                    with_reducible rfl
                  rotate_left
                  · simp only [Act.put, List.setIfInBounds_toArray, List.set_cons_zero, List.set_cons_succ, i64_w, i32_w]
                    rfl
                  refine pure_ (i := 18) (N := some 35) (v := ?_) (a' := ?_) #[true, true, true, true, true, true, true, true, true, true, true, true, true, true, true, true, false, true, true, false, false, false, false, false, false] rfl rfl (any_of HT_.out (by kernel_rfl)) (fun _ _ _ h => h) (Or.inl ⟨by rfl, ?_⟩) ?_ ?_
                  rotate_left
                  · intro w'
                    go_simp
                    with_reducible rfl
                  rotate_left
                  · simp only [Act.put, List.setIfInBounds_toArray, List.set_cons_zero, List.set_cons_succ, i64_w, i32_w]
                    rfl
                  refine pure_ (i := 19) (N := some 36) (v := ?_) (a' := ?_) #[true, true, true, true, true, true, true, true, true, true, true, true, true, true, true, true, false, true, true, true, false, false, false, false, false] rfl rfl (any_of HT_.out (by kernel_rfl)) (fun _ _ _ h => h) (Or.inl ⟨by rfl, ?_⟩) ?_ ?_
                  rotate_left
                  · intro w'
                    go_simp
                    with_reducible rfl
                  rotate_left
                  · simp only [Act.put, List.setIfInBounds_toArray, List.set_cons_zero, List.set_cons_succ, i64_w, i32_w]
                    rfl
                  refine pure_ (i := 20) (N := some 37) (v := ?_) (a' := ?_) #[true, true, true, true, true, true, true, true, true, true, true, true, true, true, true, true, false, true, true, true, true, false, false, false, false] rfl rfl (any_of HT_.out (by kernel_rfl)) (fun _ _ _ h => h) (Or.inl ⟨by rfl, ?_⟩) ?_ ?_
                  rotate_left
                  · intro w'
                    go_simp
                    with_reducible rfl
                  rotate_left
                  · simp only [Act.put, List.setIfInBounds_toArray, List.set_cons_zero, List.set_cons_succ, i64_w, i32_w]
                    rfl
                  refine take_ (i := 16) (N := some 33) (v := ?_) (a' := ?_) #[true, true, true, true, true, true, true, true, true, true, true, true, true, true, true, true, true, true, true, true, true, false, false, false, false] rfl rfl (take_ofW HT_.out HW_.out (by kernel_rfl)) (fun _ _ _ h => h) (Or.inl ⟨by rfl, ?_⟩) hHeld ?_ ?_
                  rotate_left
                  · rintro w' ⟨s0, s1, s2, s3, s4, s5, s6, s7, s8, s9, s10, s11, s12, s13, s14, s15, s16, s17, s18, s19, s20, s21, s22, s23, s24, s25, s26, s27, s28, s29, s30, s31, s32, s33, s34, s35, s36, s37, s38, s39, s40, s41, s42, s43, s44, s45, s46, s47⟩
                    go_simp
                    with_reducible rfl
                  rotate_left
                  · simp only [Act.put, List.setIfInBounds_toArray, List.set_cons_zero, List.set_cons_succ, i64_w, i32_w]
                    rfl
                  refine take_ (i := 21) (N := some 38) (v := ?_) (a' := ?_) #[true, true, true, true, true, true, true, true, true, true, true, true, true, true, true, true, true, true, true, true, true, true, false, false, false] rfl rfl (take_ofW HT_.out HW_.out (by kernel_rfl)) (fun _ _ _ h => h) (Or.inl ⟨by rfl, ?_⟩) hHeld ?_ ?_
                  rotate_left
                  · rintro w' ⟨s0, s1, s2, s3, s4, s5, s6, s7, s8, s9, s10, s11, s12, s13, s14, s15, s16, s17, s18, s19, s20, s21, s22, s23, s24, s25, s26, s27, s28, s29, s30, s31, s32, s33, s34, s35, s36, s37, s38, s39, s40, s41, s42, s43, s44, s45, s46, s47⟩
                    go_simp
                    with_reducible rfl
                  rotate_left
                  · simp only [Act.put, List.setIfInBounds_toArray, List.set_cons_zero, List.set_cons_succ, i64_w, i32_w]
                    rfl
                  refine one_ (i := 22) (N := some 39) #[true, true, true, true, true, true, true, true, true, true, true, true, true, true, true, true, true, true, true, true, true, true, true, false, false] rfl rfl (one_of HT_.out (by kernel_rfl)) (by decide) (fun K hK => ?_)
                  refine goes_ Try.func17 (by kernel_rfl) rfl #[.agg #[.int .i64 ((rd_T49 l0 x5_1).f1.f0), .int .i64 ((rd_T49 l0 x5_1).f1.f1), .int .i64 ((rd_T49 l0 x5_1).f1.f2), .int .i64 ((rd_T49 l0 x5_1).f1.f3), .int .i64 ((rd_T49 l0 x5_1).f1.f4), .int .i64 ((rd_T49 l0 x5_1).f1.f5), .int .i64 ((rd_T49 l0 x5_1).f1.f6), .string ((rd_T49 l0 x5_1).f1.f7), .string ((rd_T49 l0 x5_1).f1.f8), .slice A288_10 ((rd_T49 l0 x5_1).f1.f9).length c288_10, .slice A288_11 ((rd_T49 l0 x5_1).f1.f10).length c288_11], .agg #[.int .i64 ((rd_T49 l1 x5_1).f1.f0), .int .i64 ((rd_T49 l1 x5_1).f1.f1), .int .i64 ((rd_T49 l1 x5_1).f1.f2), .int .i64 ((rd_T49 l1 x5_1).f1.f3), .int .i64 ((rd_T49 l1 x5_1).f1.f4), .int .i64 ((rd_T49 l1 x5_1).f1.f5), .int .i64 ((rd_T49 l1 x5_1).f1.f6), .string ((rd_T49 l1 x5_1).f1.f7), .string ((rd_T49 l1 x5_1).f1.f8), .slice A289_10 ((rd_T49 l1 x5_1).f1.f9).length c289_10, .slice A289_11 ((rd_T49 l1 x5_1).f1.f10).length c289_11]] (by rfl) rfl rfl (by (try simp only [List.map_toArray, List.map_cons, List.map_nil]); first | done | rfl | (simp only [List.length_drop, List.length_take]; rfl)) ?_
                  with_reducible refine (careenref04_Same.calls ((rd_T49 l0 x5_1).f1.f0) ((rd_T49 l0 x5_1).f1.f1) ((rd_T49 l0 x5_1).f1.f2) ((rd_T49 l0 x5_1).f1.f3) ((rd_T49 l0 x5_1).f1.f4) ((rd_T49 l0 x5_1).f1.f5) ((rd_T49 l0 x5_1).f1.f6) ((rd_T49 l0 x5_1).f1.f7) ((rd_T49 l0 x5_1).f1.f8) _ _ ((rd_T49 l0 x5_1).f1.f9) _ _ ((rd_T49 l0 x5_1).f1.f10) ((rd_T49 l1 x5_1).f1.f0) ((rd_T49 l1 x5_1).f1.f1) ((rd_T49 l1 x5_1).f1.f2) ((rd_T49 l1 x5_1).f1.f3) ((rd_T49 l1 x5_1).f1.f4) ((rd_T49 l1 x5_1).f1.f5) ((rd_T49 l1 x5_1).f1.f6) ((rd_T49 l1 x5_1).f1.f7) ((rd_T49 l1 x5_1).f1.f8) _ _ ((rd_T49 l1 x5_1).f1.f9) _ _ ((rd_T49 l1 x5_1).f1.f10) true _ ?side1 ?side2 ?side3 ?side4 ?side5 ?side6 ?side7 ?side8 A8.out).mono ?_
                  (case side1 => repeat (first | exact (Kd.C_below HR290_10.out HB.out) | (with_reducible refine Kd.C_alloc ?_ _) | (with_reducible refine Kd.C_drewN ?_ _) | (with_reducible refine Kd.C_drew ?_)))
                  (case side2 => exact HC290_10.out)
                  (case side3 => repeat (first | exact (Kd.C_below HR290_11.out HB.out) | (with_reducible refine Kd.C_alloc ?_ _) | (with_reducible refine Kd.C_drewN ?_ _) | (with_reducible refine Kd.C_drew ?_)))
                  (case side4 => exact HC290_11.out)
                  (case side5 => repeat (first | exact (Kd.C_below HR291_10.out HB.out) | (with_reducible refine Kd.C_alloc ?_ _) | (with_reducible refine Kd.C_drewN ?_ _) | (with_reducible refine Kd.C_drew ?_)))
                  (case side6 => exact HC291_10.out)
                  (case side7 => repeat (first | exact (Kd.C_below HR291_11.out HB.out) | (with_reducible refine Kd.C_alloc ?_ _) | (with_reducible refine Kd.C_drewN ?_ _) | (with_reducible refine Kd.C_drew ?_)))
                  (case side8 => exact HC291_11.out)
                  rintro e w11 ⟨rfl, hb⟩
                  refine ⟨_, rfl, ?_⟩
                  have n0_ := Aside0.mk (below_step (by repeat (first | (with_reducible first | exact HB.out | apply below_alloc | apply pw_below_drewN | apply below_drew1) | exact HB.out)) hb)
                  clear HB
                  have HB := n0_
                  clear n0_
                  (try clear hb)
                  (try clear hb2)
                  (try clear hk)
                  (try clear hi)
                  refine hK.out _ _ ⟨((HB.out.cell (World.block_lt_of_cell? w _ hw288_0)).trans hw288_0), ((HB.out.cell (World.block_lt_of_cell? w _ hw288_1)).trans hw288_1), ((HB.out.cell (World.block_lt_of_cell? w _ hw288_2)).trans hw288_2), ((HB.out.cell (World.block_lt_of_cell? w _ hw288_3)).trans hw288_3), ((HB.out.cell (World.block_lt_of_cell? w _ hw288_4)).trans hw288_4), ((HB.out.cell (World.block_lt_of_cell? w _ hw288_5)).trans hw288_5), ((HB.out.cell (World.block_lt_of_cell? w _ hw288_6)).trans hw288_6), ((HB.out.cell (World.block_lt_of_cell? w _ hw288_7)).trans hw288_7), ((HB.out.cell (World.block_lt_of_cell? w _ hw288_8)).trans hw288_8), ((HB.out.cell (World.block_lt_of_cell? w _ hw288_9)).trans hw288_9), ((HB.out.cell (World.block_lt_of_cell? w _ hw288_10)).trans hw288_10), ((HB.out.cell (World.block_lt_of_cell? w _ hw288_11)).trans hw288_11), ((HB.out.cell (World.block_lt_of_cell? w _ hw289_0)).trans hw289_0), ((HB.out.cell (World.block_lt_of_cell? w _ hw289_1)).trans hw289_1), ((HB.out.cell (World.block_lt_of_cell? w _ hw289_2)).trans hw289_2), ((HB.out.cell (World.block_lt_of_cell? w _ hw289_3)).trans hw289_3), ((HB.out.cell (World.block_lt_of_cell? w _ hw289_4)).trans hw289_4), ((HB.out.cell (World.block_lt_of_cell? w _ hw289_5)).trans hw289_5), ((HB.out.cell (World.block_lt_of_cell? w _ hw289_6)).trans hw289_6), ((HB.out.cell (World.block_lt_of_cell? w _ hw289_7)).trans hw289_7), ((HB.out.cell (World.block_lt_of_cell? w _ hw289_8)).trans hw289_8), ((HB.out.cell (World.block_lt_of_cell? w _ hw289_9)).trans hw289_9), ((HB.out.cell (World.block_lt_of_cell? w _ hw289_10)).trans hw289_10), ((HB.out.cell (World.block_lt_of_cell? w _ hw289_11)).trans hw289_11), ((HB.out.cell (World.block_lt_of_cell? w _ hw290_0)).trans hw290_0), ((HB.out.cell (World.block_lt_of_cell? w _ hw290_1)).trans hw290_1), ((HB.out.cell (World.block_lt_of_cell? w _ hw290_2)).trans hw290_2), ((HB.out.cell (World.block_lt_of_cell? w _ hw290_3)).trans hw290_3), ((HB.out.cell (World.block_lt_of_cell? w _ hw290_4)).trans hw290_4), ((HB.out.cell (World.block_lt_of_cell? w _ hw290_5)).trans hw290_5), ((HB.out.cell (World.block_lt_of_cell? w _ hw290_6)).trans hw290_6), ((HB.out.cell (World.block_lt_of_cell? w _ hw290_7)).trans hw290_7), ((HB.out.cell (World.block_lt_of_cell? w _ hw290_8)).trans hw290_8), ((HB.out.cell (World.block_lt_of_cell? w _ hw290_9)).trans hw290_9), ((HB.out.cell (World.block_lt_of_cell? w _ hw290_10)).trans hw290_10), ((HB.out.cell (World.block_lt_of_cell? w _ hw290_11)).trans hw290_11), ((HB.out.cell (World.block_lt_of_cell? w _ hw291_0)).trans hw291_0), ((HB.out.cell (World.block_lt_of_cell? w _ hw291_1)).trans hw291_1), ((HB.out.cell (World.block_lt_of_cell? w _ hw291_2)).trans hw291_2), ((HB.out.cell (World.block_lt_of_cell? w _ hw291_3)).trans hw291_3), ((HB.out.cell (World.block_lt_of_cell? w _ hw291_4)).trans hw291_4), ((HB.out.cell (World.block_lt_of_cell? w _ hw291_5)).trans hw291_5), ((HB.out.cell (World.block_lt_of_cell? w _ hw291_6)).trans hw291_6), ((HB.out.cell (World.block_lt_of_cell? w _ hw291_7)).trans hw291_7), ((HB.out.cell (World.block_lt_of_cell? w _ hw291_8)).trans hw291_8), ((HB.out.cell (World.block_lt_of_cell? w _ hw291_9)).trans hw291_9), ((HB.out.cell (World.block_lt_of_cell? w _ hw291_10)).trans hw291_10), ((HB.out.cell (World.block_lt_of_cell? w _ hw291_11)).trans hw291_11)⟩ (fun hHeld => ?_)
                  clear hK K
                  refine norm_ (a' := ?_) ?_ ?_
                  rotate_left
                  · show Act.put _ (some 39) _ = _
                    simp only [Act.put, List.setIfInBounds_toArray, List.set_cons_zero, List.set_cons_succ, i64_w, i32_w]
                    rfl
                  refine pure_ (i := 23) (N := some 40) (v := ?_) (a' := ?_) #[true, true, true, true, true, true, true, true, true, true, true, true, true, true, true, true, true, true, true, true, true, true, true, true, false] rfl rfl (any_of HT_.out (by kernel_rfl)) (fun _ _ _ h => h) (Or.inl ⟨by rfl, ?_⟩) ?_ ?_
                  rotate_left
                  · intro w'
                    go_simp
                    with_reducible rfl
                  rotate_left
                  · simp only [Act.put, List.setIfInBounds_toArray, List.set_cons_zero, List.set_cons_succ, i64_w, i32_w]
                    rfl
                  refine pure_ (i := 24) (N := some 41) (v := ?_) (a' := ?_) #[true, true, true, true, true, true, true, true, true, true, true, true, true, true, true, true, true, true, true, true, true, true, true, true, true] rfl rfl (any_of HT_.out (by kernel_rfl)) (fun _ _ _ h => h) (Or.inl ⟨by rfl, ?_⟩) ?_ ?_
                  rotate_left
                  · intro w'
                    go_simp
                    with_reducible rfl
                  rotate_left
                  · simp only [Act.put, List.setIfInBounds_toArray, List.set_cons_zero, List.set_cons_succ, i64_w, i32_w]
                    rfl
                  refine done_ (done_of HT_.out (by kernel_rfl)) ?_
                  try go_wp2
                  go_roundg k1
                  case measure => have := HK1.out; omega
                  case rel => exact ⟨(wrap64 (x5_1 + 1)), (by first | rfl | (simp; done) | (simp [*]; done)), H', ⟨by have := HK1.out; omega⟩, ⟨by repeat (first | (with_reducible first | exact HB.out | apply below_alloc | apply pw_below_drewN | apply below_drew1) | exact HB.out)⟩⟩
                · replace c9 := Bool.eq_false_iff.mpr c9
                  subst c9
                  have H1 : (some false) = some r := by rw [if_neg (show ¬ (false = true) by decide)] at H; exact H
                  clear H
                  have H := H1
                  clear H1
                  obtain rfl := Option.some.inj H
                  try go_wp2
                  have n0_ := Aside0.mk (below_drew1 HB.out)
                  clear HB
                  have HB := n0_
                  clear n0_
                  have p288 : 0 ≤ (x5_1 : Int) := of_decide_eq_true (by first | (with_reducible assumption) | assumption)
                  have q288 : x5_1 < (l0.length : Int) := of_decide_eq_true (by first | (with_reducible assumption) | assumption)
                  obtain ⟨ad288, A288_10, c288_10, A288_11, c288_11, e288, hx288_0, hx288_1, hx288_2, hx288_3, hx288_4, hx288_5, hx288_6, hx288_7, hx288_8, hx288_9, hx288_10, hx288_11, hl288_10, hi288_10, hl288_11, hi288_11⟩ := at_T49 HR0.out x5_1 p288 q288
                  have hw288_11 := hx288_11
                  have hw288_10 := hx288_10
                  have hw288_9 := hx288_9
                  have hw288_8 := hx288_8
                  have hw288_7 := hx288_7
                  have hw288_6 := hx288_6
                  have hw288_5 := hx288_5
                  have hw288_4 := hx288_4
                  have hw288_3 := hx288_3
                  have hw288_2 := hx288_2
                  have hw288_1 := hx288_1
                  have hw288_0 := hx288_0
                  cases e288
                  replace hx288_0 := (HB.out.cell (World.block_lt_of_cell? w _ hx288_0)).trans hx288_0
                  replace hx288_1 := (HB.out.cell (World.block_lt_of_cell? w _ hx288_1)).trans hx288_1
                  replace hx288_2 := (HB.out.cell (World.block_lt_of_cell? w _ hx288_2)).trans hx288_2
                  replace hx288_3 := (HB.out.cell (World.block_lt_of_cell? w _ hx288_3)).trans hx288_3
                  replace hx288_4 := (HB.out.cell (World.block_lt_of_cell? w _ hx288_4)).trans hx288_4
                  replace hx288_5 := (HB.out.cell (World.block_lt_of_cell? w _ hx288_5)).trans hx288_5
                  replace hx288_6 := (HB.out.cell (World.block_lt_of_cell? w _ hx288_6)).trans hx288_6
                  replace hx288_7 := (HB.out.cell (World.block_lt_of_cell? w _ hx288_7)).trans hx288_7
                  replace hx288_8 := (HB.out.cell (World.block_lt_of_cell? w _ hx288_8)).trans hx288_8
                  replace hx288_9 := (HB.out.cell (World.block_lt_of_cell? w _ hx288_9)).trans hx288_9
                  replace hx288_10 := (HB.out.cell (World.block_lt_of_cell? w _ hx288_10)).trans hx288_10
                  replace hx288_11 := (HB.out.cell (World.block_lt_of_cell? w _ hx288_11)).trans hx288_11
                  have HR288_10 := Aside0.mk hi288_10
                  have HC288_10 := Aside0.mk hl288_10
                  clear hi288_10 hl288_10
                  have HR288_11 := Aside0.mk hi288_11
                  have HC288_11 := Aside0.mk hl288_11
                  clear hi288_11 hl288_11
                  replace p288 := eq_true p288
                  replace q288 := eq_true q288
                  have p289 : 0 ≤ (x5_1 : Int) := of_decide_eq_true (by first | (with_reducible assumption) | assumption)
                  have q289 : x5_1 < (l1.length : Int) := of_decide_eq_true (by first | (with_reducible assumption) | assumption)
                  obtain ⟨ad289, A289_10, c289_10, A289_11, c289_11, e289, hx289_0, hx289_1, hx289_2, hx289_3, hx289_4, hx289_5, hx289_6, hx289_7, hx289_8, hx289_9, hx289_10, hx289_11, hl289_10, hi289_10, hl289_11, hi289_11⟩ := at_T49 HR1.out x5_1 p289 q289
                  have hw289_11 := hx289_11
                  have hw289_10 := hx289_10
                  have hw289_9 := hx289_9
                  have hw289_8 := hx289_8
                  have hw289_7 := hx289_7
                  have hw289_6 := hx289_6
                  have hw289_5 := hx289_5
                  have hw289_4 := hx289_4
                  have hw289_3 := hx289_3
                  have hw289_2 := hx289_2
                  have hw289_1 := hx289_1
                  have hw289_0 := hx289_0
                  cases e289
                  replace hx289_0 := (HB.out.cell (World.block_lt_of_cell? w _ hx289_0)).trans hx289_0
                  replace hx289_1 := (HB.out.cell (World.block_lt_of_cell? w _ hx289_1)).trans hx289_1
                  replace hx289_2 := (HB.out.cell (World.block_lt_of_cell? w _ hx289_2)).trans hx289_2
                  replace hx289_3 := (HB.out.cell (World.block_lt_of_cell? w _ hx289_3)).trans hx289_3
                  replace hx289_4 := (HB.out.cell (World.block_lt_of_cell? w _ hx289_4)).trans hx289_4
                  replace hx289_5 := (HB.out.cell (World.block_lt_of_cell? w _ hx289_5)).trans hx289_5
                  replace hx289_6 := (HB.out.cell (World.block_lt_of_cell? w _ hx289_6)).trans hx289_6
                  replace hx289_7 := (HB.out.cell (World.block_lt_of_cell? w _ hx289_7)).trans hx289_7
                  replace hx289_8 := (HB.out.cell (World.block_lt_of_cell? w _ hx289_8)).trans hx289_8
                  replace hx289_9 := (HB.out.cell (World.block_lt_of_cell? w _ hx289_9)).trans hx289_9
                  replace hx289_10 := (HB.out.cell (World.block_lt_of_cell? w _ hx289_10)).trans hx289_10
                  replace hx289_11 := (HB.out.cell (World.block_lt_of_cell? w _ hx289_11)).trans hx289_11
                  have HR289_10 := Aside0.mk hi289_10
                  have HC289_10 := Aside0.mk hl289_10
                  clear hi289_10 hl289_10
                  have HR289_11 := Aside0.mk hi289_11
                  have HC289_11 := Aside0.mk hl289_11
                  clear hi289_11 hl289_11
                  replace p289 := eq_true p289
                  replace q289 := eq_true q289
                  have p290 : 0 ≤ (x5_1 : Int) := of_decide_eq_true (by first | (with_reducible assumption) | assumption)
                  have q290 : x5_1 < (l0.length : Int) := of_decide_eq_true (by first | (with_reducible assumption) | assumption)
                  obtain ⟨ad290, A290_10, c290_10, A290_11, c290_11, e290, hx290_0, hx290_1, hx290_2, hx290_3, hx290_4, hx290_5, hx290_6, hx290_7, hx290_8, hx290_9, hx290_10, hx290_11, hl290_10, hi290_10, hl290_11, hi290_11⟩ := at_T49 HR0.out x5_1 p290 q290
                  have hw290_11 := hx290_11
                  have hw290_10 := hx290_10
                  have hw290_9 := hx290_9
                  have hw290_8 := hx290_8
                  have hw290_7 := hx290_7
                  have hw290_6 := hx290_6
                  have hw290_5 := hx290_5
                  have hw290_4 := hx290_4
                  have hw290_3 := hx290_3
                  have hw290_2 := hx290_2
                  have hw290_1 := hx290_1
                  have hw290_0 := hx290_0
                  obtain rfl : ad288 = ad290 := (by injection e290)
                  replace hx290_0 := (HB.out.cell (World.block_lt_of_cell? w _ hx290_0)).trans hx290_0
                  replace hx290_1 := (HB.out.cell (World.block_lt_of_cell? w _ hx290_1)).trans hx290_1
                  replace hx290_2 := (HB.out.cell (World.block_lt_of_cell? w _ hx290_2)).trans hx290_2
                  replace hx290_3 := (HB.out.cell (World.block_lt_of_cell? w _ hx290_3)).trans hx290_3
                  replace hx290_4 := (HB.out.cell (World.block_lt_of_cell? w _ hx290_4)).trans hx290_4
                  replace hx290_5 := (HB.out.cell (World.block_lt_of_cell? w _ hx290_5)).trans hx290_5
                  replace hx290_6 := (HB.out.cell (World.block_lt_of_cell? w _ hx290_6)).trans hx290_6
                  replace hx290_7 := (HB.out.cell (World.block_lt_of_cell? w _ hx290_7)).trans hx290_7
                  replace hx290_8 := (HB.out.cell (World.block_lt_of_cell? w _ hx290_8)).trans hx290_8
                  replace hx290_9 := (HB.out.cell (World.block_lt_of_cell? w _ hx290_9)).trans hx290_9
                  replace hx290_10 := (HB.out.cell (World.block_lt_of_cell? w _ hx290_10)).trans hx290_10
                  replace hx290_11 := (HB.out.cell (World.block_lt_of_cell? w _ hx290_11)).trans hx290_11
                  have HR290_10 := Aside0.mk hi290_10
                  have HC290_10 := Aside0.mk hl290_10
                  clear hi290_10 hl290_10
                  have HR290_11 := Aside0.mk hi290_11
                  have HC290_11 := Aside0.mk hl290_11
                  clear hi290_11 hl290_11
                  replace p290 := eq_true p290
                  replace q290 := eq_true q290
                  have ea_ := Option.some.inj (hx288_10.symm.trans hx290_10)
                  injection ea_ with ea_ en_ ec_
                  subst ea_
                  subst ec_
                  clear en_
                  have ea_ := Option.some.inj (hx288_11.symm.trans hx290_11)
                  injection ea_ with ea_ en_ ec_
                  subst ea_
                  subst ec_
                  clear en_
                  have p291 : 0 ≤ (x5_1 : Int) := of_decide_eq_true (by first | (with_reducible assumption) | assumption)
                  have q291 : x5_1 < (l1.length : Int) := of_decide_eq_true (by first | (with_reducible assumption) | assumption)
                  obtain ⟨ad291, A291_10, c291_10, A291_11, c291_11, e291, hx291_0, hx291_1, hx291_2, hx291_3, hx291_4, hx291_5, hx291_6, hx291_7, hx291_8, hx291_9, hx291_10, hx291_11, hl291_10, hi291_10, hl291_11, hi291_11⟩ := at_T49 HR1.out x5_1 p291 q291
                  have hw291_11 := hx291_11
                  have hw291_10 := hx291_10
                  have hw291_9 := hx291_9
                  have hw291_8 := hx291_8
                  have hw291_7 := hx291_7
                  have hw291_6 := hx291_6
                  have hw291_5 := hx291_5
                  have hw291_4 := hx291_4
                  have hw291_3 := hx291_3
                  have hw291_2 := hx291_2
                  have hw291_1 := hx291_1
                  have hw291_0 := hx291_0
                  obtain rfl : ad289 = ad291 := (by injection e291)
                  replace hx291_0 := (HB.out.cell (World.block_lt_of_cell? w _ hx291_0)).trans hx291_0
                  replace hx291_1 := (HB.out.cell (World.block_lt_of_cell? w _ hx291_1)).trans hx291_1
                  replace hx291_2 := (HB.out.cell (World.block_lt_of_cell? w _ hx291_2)).trans hx291_2
                  replace hx291_3 := (HB.out.cell (World.block_lt_of_cell? w _ hx291_3)).trans hx291_3
                  replace hx291_4 := (HB.out.cell (World.block_lt_of_cell? w _ hx291_4)).trans hx291_4
                  replace hx291_5 := (HB.out.cell (World.block_lt_of_cell? w _ hx291_5)).trans hx291_5
                  replace hx291_6 := (HB.out.cell (World.block_lt_of_cell? w _ hx291_6)).trans hx291_6
                  replace hx291_7 := (HB.out.cell (World.block_lt_of_cell? w _ hx291_7)).trans hx291_7
                  replace hx291_8 := (HB.out.cell (World.block_lt_of_cell? w _ hx291_8)).trans hx291_8
                  replace hx291_9 := (HB.out.cell (World.block_lt_of_cell? w _ hx291_9)).trans hx291_9
                  replace hx291_10 := (HB.out.cell (World.block_lt_of_cell? w _ hx291_10)).trans hx291_10
                  replace hx291_11 := (HB.out.cell (World.block_lt_of_cell? w _ hx291_11)).trans hx291_11
                  have HR291_10 := Aside0.mk hi291_10
                  have HC291_10 := Aside0.mk hl291_10
                  clear hi291_10 hl291_10
                  have HR291_11 := Aside0.mk hi291_11
                  have HC291_11 := Aside0.mk hl291_11
                  clear hi291_11 hl291_11
                  replace p291 := eq_true p291
                  replace q291 := eq_true q291
                  have ea_ := Option.some.inj (hx289_10.symm.trans hx291_10)
                  injection ea_ with ea_ en_ ec_
                  subst ea_
                  subst ec_
                  clear en_
                  have ea_ := Option.some.inj (hx289_11.symm.trans hx291_11)
                  injection ea_ with ea_ en_ ec_
                  subst ea_
                  subst ec_
                  clear en_
                  refine start_ (n := 25) (S := fun w' => w'.cell? (ad288.add ((x5_1).toNat * 12)) = some (.int .i64 ((rd_T49 l0 x5_1).f0)) ∧ w'.cell? ⟨(ad288.add ((x5_1).toNat * 12)).block, (ad288.add ((x5_1).toNat * 12)).off + 1, none⟩ = some (.int .i64 ((rd_T49 l0 x5_1).f1.f0)) ∧ w'.cell? ⟨(ad288.add ((x5_1).toNat * 12)).block, (ad288.add ((x5_1).toNat * 12)).off + 2, none⟩ = some (.int .i64 ((rd_T49 l0 x5_1).f1.f1)) ∧ w'.cell? ⟨(ad288.add ((x5_1).toNat * 12)).block, (ad288.add ((x5_1).toNat * 12)).off + 3, none⟩ = some (.int .i64 ((rd_T49 l0 x5_1).f1.f2)) ∧ w'.cell? ⟨(ad288.add ((x5_1).toNat * 12)).block, (ad288.add ((x5_1).toNat * 12)).off + 4, none⟩ = some (.int .i64 ((rd_T49 l0 x5_1).f1.f3)) ∧ w'.cell? ⟨(ad288.add ((x5_1).toNat * 12)).block, (ad288.add ((x5_1).toNat * 12)).off + 5, none⟩ = some (.int .i64 ((rd_T49 l0 x5_1).f1.f4)) ∧ w'.cell? ⟨(ad288.add ((x5_1).toNat * 12)).block, (ad288.add ((x5_1).toNat * 12)).off + 6, none⟩ = some (.int .i64 ((rd_T49 l0 x5_1).f1.f5)) ∧ w'.cell? ⟨(ad288.add ((x5_1).toNat * 12)).block, (ad288.add ((x5_1).toNat * 12)).off + 7, none⟩ = some (.int .i64 ((rd_T49 l0 x5_1).f1.f6)) ∧ w'.cell? ⟨(ad288.add ((x5_1).toNat * 12)).block, (ad288.add ((x5_1).toNat * 12)).off + 8, none⟩ = some (.string ((rd_T49 l0 x5_1).f1.f7)) ∧ w'.cell? ⟨(ad288.add ((x5_1).toNat * 12)).block, (ad288.add ((x5_1).toNat * 12)).off + 9, none⟩ = some (.string ((rd_T49 l0 x5_1).f1.f8)) ∧ w'.cell? ⟨(ad288.add ((x5_1).toNat * 12)).block, (ad288.add ((x5_1).toNat * 12)).off + 10, none⟩ = some (.slice A288_10 ((rd_T49 l0 x5_1).f1.f9).length c288_10) ∧ w'.cell? ⟨(ad288.add ((x5_1).toNat * 12)).block, (ad288.add ((x5_1).toNat * 12)).off + 11, none⟩ = some (.slice A288_11 ((rd_T49 l0 x5_1).f1.f10).length c288_11) ∧ w'.cell? (ad289.add ((x5_1).toNat * 12)) = some (.int .i64 ((rd_T49 l1 x5_1).f0)) ∧ w'.cell? ⟨(ad289.add ((x5_1).toNat * 12)).block, (ad289.add ((x5_1).toNat * 12)).off + 1, none⟩ = some (.int .i64 ((rd_T49 l1 x5_1).f1.f0)) ∧ w'.cell? ⟨(ad289.add ((x5_1).toNat * 12)).block, (ad289.add ((x5_1).toNat * 12)).off + 2, none⟩ = some (.int .i64 ((rd_T49 l1 x5_1).f1.f1)) ∧ w'.cell? ⟨(ad289.add ((x5_1).toNat * 12)).block, (ad289.add ((x5_1).toNat * 12)).off + 3, none⟩ = some (.int .i64 ((rd_T49 l1 x5_1).f1.f2)) ∧ w'.cell? ⟨(ad289.add ((x5_1).toNat * 12)).block, (ad289.add ((x5_1).toNat * 12)).off + 4, none⟩ = some (.int .i64 ((rd_T49 l1 x5_1).f1.f3)) ∧ w'.cell? ⟨(ad289.add ((x5_1).toNat * 12)).block, (ad289.add ((x5_1).toNat * 12)).off + 5, none⟩ = some (.int .i64 ((rd_T49 l1 x5_1).f1.f4)) ∧ w'.cell? ⟨(ad289.add ((x5_1).toNat * 12)).block, (ad289.add ((x5_1).toNat * 12)).off + 6, none⟩ = some (.int .i64 ((rd_T49 l1 x5_1).f1.f5)) ∧ w'.cell? ⟨(ad289.add ((x5_1).toNat * 12)).block, (ad289.add ((x5_1).toNat * 12)).off + 7, none⟩ = some (.int .i64 ((rd_T49 l1 x5_1).f1.f6)) ∧ w'.cell? ⟨(ad289.add ((x5_1).toNat * 12)).block, (ad289.add ((x5_1).toNat * 12)).off + 8, none⟩ = some (.string ((rd_T49 l1 x5_1).f1.f7)) ∧ w'.cell? ⟨(ad289.add ((x5_1).toNat * 12)).block, (ad289.add ((x5_1).toNat * 12)).off + 9, none⟩ = some (.string ((rd_T49 l1 x5_1).f1.f8)) ∧ w'.cell? ⟨(ad289.add ((x5_1).toNat * 12)).block, (ad289.add ((x5_1).toNat * 12)).off + 10, none⟩ = some (.slice A289_10 ((rd_T49 l1 x5_1).f1.f9).length c289_10) ∧ w'.cell? ⟨(ad289.add ((x5_1).toNat * 12)).block, (ad289.add ((x5_1).toNat * 12)).off + 11, none⟩ = some (.slice A289_11 ((rd_T49 l1 x5_1).f1.f10).length c289_11) ∧ w'.cell? (ad288.add ((x5_1).toNat * 12)) = some (.int .i64 ((rd_T49 l0 x5_1).f0)) ∧ w'.cell? ⟨(ad288.add ((x5_1).toNat * 12)).block, (ad288.add ((x5_1).toNat * 12)).off + 1, none⟩ = some (.int .i64 ((rd_T49 l0 x5_1).f1.f0)) ∧ w'.cell? ⟨(ad288.add ((x5_1).toNat * 12)).block, (ad288.add ((x5_1).toNat * 12)).off + 2, none⟩ = some (.int .i64 ((rd_T49 l0 x5_1).f1.f1)) ∧ w'.cell? ⟨(ad288.add ((x5_1).toNat * 12)).block, (ad288.add ((x5_1).toNat * 12)).off + 3, none⟩ = some (.int .i64 ((rd_T49 l0 x5_1).f1.f2)) ∧ w'.cell? ⟨(ad288.add ((x5_1).toNat * 12)).block, (ad288.add ((x5_1).toNat * 12)).off + 4, none⟩ = some (.int .i64 ((rd_T49 l0 x5_1).f1.f3)) ∧ w'.cell? ⟨(ad288.add ((x5_1).toNat * 12)).block, (ad288.add ((x5_1).toNat * 12)).off + 5, none⟩ = some (.int .i64 ((rd_T49 l0 x5_1).f1.f4)) ∧ w'.cell? ⟨(ad288.add ((x5_1).toNat * 12)).block, (ad288.add ((x5_1).toNat * 12)).off + 6, none⟩ = some (.int .i64 ((rd_T49 l0 x5_1).f1.f5)) ∧ w'.cell? ⟨(ad288.add ((x5_1).toNat * 12)).block, (ad288.add ((x5_1).toNat * 12)).off + 7, none⟩ = some (.int .i64 ((rd_T49 l0 x5_1).f1.f6)) ∧ w'.cell? ⟨(ad288.add ((x5_1).toNat * 12)).block, (ad288.add ((x5_1).toNat * 12)).off + 8, none⟩ = some (.string ((rd_T49 l0 x5_1).f1.f7)) ∧ w'.cell? ⟨(ad288.add ((x5_1).toNat * 12)).block, (ad288.add ((x5_1).toNat * 12)).off + 9, none⟩ = some (.string ((rd_T49 l0 x5_1).f1.f8)) ∧ w'.cell? ⟨(ad288.add ((x5_1).toNat * 12)).block, (ad288.add ((x5_1).toNat * 12)).off + 10, none⟩ = some (.slice A288_10 ((rd_T49 l0 x5_1).f1.f9).length c288_10) ∧ w'.cell? ⟨(ad288.add ((x5_1).toNat * 12)).block, (ad288.add ((x5_1).toNat * 12)).off + 11, none⟩ = some (.slice A288_11 ((rd_T49 l0 x5_1).f1.f10).length c288_11) ∧ w'.cell? (ad289.add ((x5_1).toNat * 12)) = some (.int .i64 ((rd_T49 l1 x5_1).f0)) ∧ w'.cell? ⟨(ad289.add ((x5_1).toNat * 12)).block, (ad289.add ((x5_1).toNat * 12)).off + 1, none⟩ = some (.int .i64 ((rd_T49 l1 x5_1).f1.f0)) ∧ w'.cell? ⟨(ad289.add ((x5_1).toNat * 12)).block, (ad289.add ((x5_1).toNat * 12)).off + 2, none⟩ = some (.int .i64 ((rd_T49 l1 x5_1).f1.f1)) ∧ w'.cell? ⟨(ad289.add ((x5_1).toNat * 12)).block, (ad289.add ((x5_1).toNat * 12)).off + 3, none⟩ = some (.int .i64 ((rd_T49 l1 x5_1).f1.f2)) ∧ w'.cell? ⟨(ad289.add ((x5_1).toNat * 12)).block, (ad289.add ((x5_1).toNat * 12)).off + 4, none⟩ = some (.int .i64 ((rd_T49 l1 x5_1).f1.f3)) ∧ w'.cell? ⟨(ad289.add ((x5_1).toNat * 12)).block, (ad289.add ((x5_1).toNat * 12)).off + 5, none⟩ = some (.int .i64 ((rd_T49 l1 x5_1).f1.f4)) ∧ w'.cell? ⟨(ad289.add ((x5_1).toNat * 12)).block, (ad289.add ((x5_1).toNat * 12)).off + 6, none⟩ = some (.int .i64 ((rd_T49 l1 x5_1).f1.f5)) ∧ w'.cell? ⟨(ad289.add ((x5_1).toNat * 12)).block, (ad289.add ((x5_1).toNat * 12)).off + 7, none⟩ = some (.int .i64 ((rd_T49 l1 x5_1).f1.f6)) ∧ w'.cell? ⟨(ad289.add ((x5_1).toNat * 12)).block, (ad289.add ((x5_1).toNat * 12)).off + 8, none⟩ = some (.string ((rd_T49 l1 x5_1).f1.f7)) ∧ w'.cell? ⟨(ad289.add ((x5_1).toNat * 12)).block, (ad289.add ((x5_1).toNat * 12)).off + 9, none⟩ = some (.string ((rd_T49 l1 x5_1).f1.f8)) ∧ w'.cell? ⟨(ad289.add ((x5_1).toNat * 12)).block, (ad289.add ((x5_1).toNat * 12)).off + 10, none⟩ = some (.slice A289_10 ((rd_T49 l1 x5_1).f1.f9).length c289_10) ∧ w'.cell? ⟨(ad289.add ((x5_1).toNat * 12)).block, (ad289.add ((x5_1).toNat * 12)).off + 11, none⟩ = some (.slice A289_11 ((rd_T49 l1 x5_1).f1.f10).length c289_11)) (ds := []) #[false, false, false, false, false, false, false, false, false, false, false, false, false, false, false, false, false, false, false, false, false, false, false, false, false] (by kernel_rfl) rfl rfl ⟨((HB.out.cell (World.block_lt_of_cell? w _ hw288_0)).trans hw288_0), ((HB.out.cell (World.block_lt_of_cell? w _ hw288_1)).trans hw288_1), ((HB.out.cell (World.block_lt_of_cell? w _ hw288_2)).trans hw288_2), ((HB.out.cell (World.block_lt_of_cell? w _ hw288_3)).trans hw288_3), ((HB.out.cell (World.block_lt_of_cell? w _ hw288_4)).trans hw288_4), ((HB.out.cell (World.block_lt_of_cell? w _ hw288_5)).trans hw288_5), ((HB.out.cell (World.block_lt_of_cell? w _ hw288_6)).trans hw288_6), ((HB.out.cell (World.block_lt_of_cell? w _ hw288_7)).trans hw288_7), ((HB.out.cell (World.block_lt_of_cell? w _ hw288_8)).trans hw288_8), ((HB.out.cell (World.block_lt_of_cell? w _ hw288_9)).trans hw288_9), ((HB.out.cell (World.block_lt_of_cell? w _ hw288_10)).trans hw288_10), ((HB.out.cell (World.block_lt_of_cell? w _ hw288_11)).trans hw288_11), ((HB.out.cell (World.block_lt_of_cell? w _ hw289_0)).trans hw289_0), ((HB.out.cell (World.block_lt_of_cell? w _ hw289_1)).trans hw289_1), ((HB.out.cell (World.block_lt_of_cell? w _ hw289_2)).trans hw289_2), ((HB.out.cell (World.block_lt_of_cell? w _ hw289_3)).trans hw289_3), ((HB.out.cell (World.block_lt_of_cell? w _ hw289_4)).trans hw289_4), ((HB.out.cell (World.block_lt_of_cell? w _ hw289_5)).trans hw289_5), ((HB.out.cell (World.block_lt_of_cell? w _ hw289_6)).trans hw289_6), ((HB.out.cell (World.block_lt_of_cell? w _ hw289_7)).trans hw289_7), ((HB.out.cell (World.block_lt_of_cell? w _ hw289_8)).trans hw289_8), ((HB.out.cell (World.block_lt_of_cell? w _ hw289_9)).trans hw289_9), ((HB.out.cell (World.block_lt_of_cell? w _ hw289_10)).trans hw289_10), ((HB.out.cell (World.block_lt_of_cell? w _ hw289_11)).trans hw289_11), ((HB.out.cell (World.block_lt_of_cell? w _ hw290_0)).trans hw290_0), ((HB.out.cell (World.block_lt_of_cell? w _ hw290_1)).trans hw290_1), ((HB.out.cell (World.block_lt_of_cell? w _ hw290_2)).trans hw290_2), ((HB.out.cell (World.block_lt_of_cell? w _ hw290_3)).trans hw290_3), ((HB.out.cell (World.block_lt_of_cell? w _ hw290_4)).trans hw290_4), ((HB.out.cell (World.block_lt_of_cell? w _ hw290_5)).trans hw290_5), ((HB.out.cell (World.block_lt_of_cell? w _ hw290_6)).trans hw290_6), ((HB.out.cell (World.block_lt_of_cell? w _ hw290_7)).trans hw290_7), ((HB.out.cell (World.block_lt_of_cell? w _ hw290_8)).trans hw290_8), ((HB.out.cell (World.block_lt_of_cell? w _ hw290_9)).trans hw290_9), ((HB.out.cell (World.block_lt_of_cell? w _ hw290_10)).trans hw290_10), ((HB.out.cell (World.block_lt_of_cell? w _ hw290_11)).trans hw290_11), ((HB.out.cell (World.block_lt_of_cell? w _ hw291_0)).trans hw291_0), ((HB.out.cell (World.block_lt_of_cell? w _ hw291_1)).trans hw291_1), ((HB.out.cell (World.block_lt_of_cell? w _ hw291_2)).trans hw291_2), ((HB.out.cell (World.block_lt_of_cell? w _ hw291_3)).trans hw291_3), ((HB.out.cell (World.block_lt_of_cell? w _ hw291_4)).trans hw291_4), ((HB.out.cell (World.block_lt_of_cell? w _ hw291_5)).trans hw291_5), ((HB.out.cell (World.block_lt_of_cell? w _ hw291_6)).trans hw291_6), ((HB.out.cell (World.block_lt_of_cell? w _ hw291_7)).trans hw291_7), ((HB.out.cell (World.block_lt_of_cell? w _ hw291_8)).trans hw291_8), ((HB.out.cell (World.block_lt_of_cell? w _ hw291_9)).trans hw291_9), ((HB.out.cell (World.block_lt_of_cell? w _ hw291_10)).trans hw291_10), ((HB.out.cell (World.block_lt_of_cell? w _ hw291_11)).trans hw291_11)⟩ (fun hHeld => ?_); refine with_tabW careenref04_SameAll.tab6 careenref04_SameAll.bits6 (fun HT_ HW_ => ?_)
                  generalize wr.drew = w12 at HB HR288_10 HR288_11 HR289_10 HR289_11 HR290_10 HR290_11 HR291_10 HR291_11 hx288_0 hx288_1 hx288_10 hx288_11 hx288_2 hx288_3 hx288_4 hx288_5 hx288_6 hx288_7 hx288_8 hx288_9 hx289_0 hx289_1 hx289_10 hx289_11 hx289_2 hx289_3 hx289_4 hx289_5 hx289_6 hx289_7 hx289_8 hx289_9 hx290_0 hx290_1 hx290_10 hx290_11 hx290_2 hx290_3 hx290_4 hx290_5 hx290_6 hx290_7 hx290_8 hx290_9 hx291_0 hx291_1 hx291_10 hx291_11 hx291_2 hx291_3 hx291_4 hx291_5 hx291_6 hx291_7 hx291_8 hx291_9 hHeld ⊢
                  refine pure_ (i := 0) (N := some 17) (v := ?_) (a' := ?_) #[true, false, false, false, false, false, false, false, false, false, false, false, false, false, false, false, false, false, false, false, false, false, false, false, false] rfl rfl (any_of HT_.out (by kernel_rfl)) (fun _ _ _ h => h) (Or.inl ⟨by rfl, ?_⟩) ?_ ?_
                  rotate_left
                  · intro w'
                    go_simp
                    with_reducible rfl
                  rotate_left
                  · simp only [Act.put, List.setIfInBounds_toArray, List.set_cons_zero, List.set_cons_succ, i64_w, i32_w]
                    rfl
                  refine pure_ (i := 1) (N := some 18) (v := ?_) (a' := ?_) #[true, true, false, false, false, false, false, false, false, false, false, false, false, false, false, false, false, false, false, false, false, false, false, false, false] rfl rfl (any_of HT_.out (by kernel_rfl)) (fun _ _ _ h => h) (Or.inl ⟨by rfl, ?_⟩) ?_ ?_
                  rotate_left
                  · intro w'
                    go_simp
                    with_reducible rfl
                  rotate_left
                  · simp only [Act.put, List.setIfInBounds_toArray, List.set_cons_zero, List.set_cons_succ, i64_w, i32_w]
                    rfl
                  refine pure_ (i := 2) (N := some 19) (v := ?_) (a' := ?_) #[true, true, true, false, false, false, false, false, false, false, false, false, false, false, false, false, false, false, false, false, false, false, false, false, false] rfl rfl (any_of HT_.out (by kernel_rfl)) (fun _ _ _ h => h) (Or.inl ⟨by rfl, ?_⟩) ?_ ?_
                  rotate_left
                  · intro w'
                    go_simp
                    with_reducible rfl
                  rotate_left
                  · simp only [Act.put, List.setIfInBounds_toArray, List.set_cons_zero, List.set_cons_succ, i64_w, i32_w]
                    rfl
                  refine pure_ (i := 3) (N := some 20) (v := ?_) (a' := ?_) #[true, true, true, true, false, false, false, false, false, false, false, false, false, false, false, false, false, false, false, false, false, false, false, false, false] rfl rfl (any_of HT_.out (by kernel_rfl)) (fun _ _ _ h => h) (Or.inl ⟨by rfl, ?_⟩) ?_ ?_
                  rotate_left
                  · intro w'
                    go_simp
                    with_reducible rfl
                  rotate_left
                  · simp only [Act.put, List.setIfInBounds_toArray, List.set_cons_zero, List.set_cons_succ, i64_w, i32_w]
                    rfl
                  refine pure_ (i := 5) (N := some 22) (v := ?_) (a' := ?_) #[true, true, true, true, false, true, false, false, false, false, false, false, false, false, false, false, false, false, false, false, false, false, false, false, false] rfl rfl (any_of HT_.out (by kernel_rfl)) (fun _ _ _ h => h) (Or.inl ⟨by rfl, ?_⟩) ?_ ?_
                  rotate_left
                  · intro w'
                    go_simp
                    with_reducible rfl
                  rotate_left
                  · simp only [Act.put, List.setIfInBounds_toArray, List.set_cons_zero, List.set_cons_succ, i64_w, i32_w]
                    rfl
                  refine pure_ (i := 6) (N := some 23) (v := ?_) (a' := ?_) #[true, true, true, true, false, true, true, false, false, false, false, false, false, false, false, false, false, false, false, false, false, false, false, false, false] rfl rfl (any_of HT_.out (by kernel_rfl)) (fun _ _ _ h => h) (Or.inl ⟨by rfl, ?_⟩) ?_ ?_
                  rotate_left
                  · intro w'
                    go_simp
                    with_reducible rfl
                  rotate_left
                  · simp only [Act.put, List.setIfInBounds_toArray, List.set_cons_zero, List.set_cons_succ, i64_w, i32_w]
                    rfl
                  refine pure_ (i := 7) (N := some 24) (v := ?_) (a' := ?_) #[true, true, true, true, false, true, true, true, false, false, false, false, false, false, false, false, false, false, false, false, false, false, false, false, false] rfl rfl (any_of HT_.out (by kernel_rfl)) (fun _ _ _ h => h) (Or.inl ⟨by rfl, ?_⟩) ?_ ?_
                  rotate_left
                  · intro w'
                    go_simp
                    with_reducible rfl
                  rotate_left
                  · simp only [Act.put, List.setIfInBounds_toArray, List.set_cons_zero, List.set_cons_succ, i64_w, i32_w]
                    rfl
                  refine pure_ (i := 8) (N := some 25) (v := ?_) (a' := ?_) #[true, true, true, true, false, true, true, true, true, false, false, false, false, false, false, false, false, false, false, false, false, false, false, false, false] rfl rfl (any_of HT_.out (by kernel_rfl)) (fun _ _ _ h => h) (Or.inl ⟨by rfl, ?_⟩) ?_ ?_
                  rotate_left
                  · intro w'
                    go_simp
                    with_reducible rfl
                  rotate_left
                  · simp only [Act.put, List.setIfInBounds_toArray, List.set_cons_zero, List.set_cons_succ, i64_w, i32_w]
                    rfl
                  refine take_ (i := 4) (N := some 21) (v := ?_) (a' := ?_) #[true, true, true, true, true, true, true, true, true, false, false, false, false, false, false, false, false, false, false, false, false, false, false, false, false] rfl rfl (take_ofW HT_.out HW_.out (by kernel_rfl)) (fun _ _ _ h => h) (Or.inl ⟨by rfl, ?_⟩) hHeld ?_ ?_
                  rotate_left
                  · rintro w' ⟨s0, s1, s2, s3, s4, s5, s6, s7, s8, s9, s10, s11, s12, s13, s14, s15, s16, s17, s18, s19, s20, s21, s22, s23, s24, s25, s26, s27, s28, s29, s30, s31, s32, s33, s34, s35, s36, s37, s38, s39, s40, s41, s42, s43, s44, s45, s46, s47⟩
                    go_simp
                    with_reducible rfl
                  rotate_left
                  · simp only [Act.put, List.setIfInBounds_toArray, List.set_cons_zero, List.set_cons_succ, i64_w, i32_w]
                    rfl
                  refine take_ (i := 9) (N := some 26) (v := ?_) (a' := ?_) #[true, true, true, true, true, true, true, true, true, true, false, false, false, false, false, false, false, false, false, false, false, false, false, false, false] rfl rfl (take_ofW HT_.out HW_.out (by kernel_rfl)) (fun _ _ _ h => h) (Or.inl ⟨by rfl, ?_⟩) hHeld ?_ ?_
                  rotate_left
                  · rintro w' ⟨s0, s1, s2, s3, s4, s5, s6, s7, s8, s9, s10, s11, s12, s13, s14, s15, s16, s17, s18, s19, s20, s21, s22, s23, s24, s25, s26, s27, s28, s29, s30, s31, s32, s33, s34, s35, s36, s37, s38, s39, s40, s41, s42, s43, s44, s45, s46, s47⟩
                    go_simp
                    with_reducible rfl
                  rotate_left
                  · simp only [Act.put, List.setIfInBounds_toArray, List.set_cons_zero, List.set_cons_succ, i64_w, i32_w]
                    rfl
                  refine pure_ (i := 10) (N := some 27) (v := ?_) (a' := ?_) #[true, true, true, true, true, true, true, true, true, true, true, false, false, false, false, false, false, false, false, false, false, false, false, false, false] rfl rfl (any_of HT_.out (by kernel_rfl)) (fun _ _ _ h => h) (Or.inl ⟨by rfl, ?_⟩) ?_ ?_
                  rotate_left
                  · intro w'
                    go_simp
                    with_reducible rfl
                  rotate_left
                  · simp only [Act.put, List.setIfInBounds_toArray, List.set_cons_zero, List.set_cons_succ, i64_w, i32_w]
                    rfl
                  refine pure_ (i := 11) (N := some 28) (v := ?_) (a' := ?_) #[true, true, true, true, true, true, true, true, true, true, true, true, false, false, false, false, false, false, false, false, false, false, false, false, false] rfl rfl (any_of HT_.out (by kernel_rfl)) (fun _ _ _ h => h) (Or.inl ⟨by rfl, ?_⟩) ?_ ?_
                  rotate_left
                  · intro w'
                    go_simp
                    with_reducible rfl
                  rotate_left
                  · simp only [Act.put, List.setIfInBounds_toArray, List.set_cons_zero, List.set_cons_succ, i64_w, i32_w]
                    rfl
                  refine pure_ (i := 12) (N := some 29) (v := ?_) (a' := ?_) #[true, true, true, true, true, true, true, true, true, true, true, true, true, false, false, false, false, false, false, false, false, false, false, false, false] rfl rfl (any_of HT_.out (by kernel_rfl)) (fun _ _ _ h => h) (Or.inl ⟨by rfl, ?_⟩) ?_ ?_
                  rotate_left
                  · intro w'
                    go_simp
                    with_reducible rfl
                  rotate_left
                  · simp only [Act.put, List.setIfInBounds_toArray, List.set_cons_zero, List.set_cons_succ, i64_w, i32_w]
                    rfl
                  refine pure_ (i := 13) (N := some 30) (v := ?_) (a' := ?_) #[true, true, true, true, true, true, true, true, true, true, true, true, true, true, false, false, false, false, false, false, false, false, false, false, false] rfl rfl (any_of HT_.out (by kernel_rfl)) (fun _ _ _ h => h) (Or.inl ⟨by rfl, ?_⟩) ?_ ?_
                  rotate_left
                  · intro w'
                    go_simp
                    with_reducible rfl
                  rotate_left
                  · simp only [Act.put, List.setIfInBounds_toArray, List.set_cons_zero, List.set_cons_succ, i64_w, i32_w]
                    rfl
                  refine pure_ (i := 14) (N := some 31) (v := ?_) (a' := ?_) #[true, true, true, true, true, true, true, true, true, true, true, true, true, true, true, false, false, false, false, false, false, false, false, false, false] rfl rfl (any_of HT_.out (by kernel_rfl)) (fun _ _ _ h => h) (Or.inl ⟨by rfl, ?_⟩) ?_ ?_
                  rotate_left
                  · intro w'
                    go_simp
                    with_reducible rfl
                  rotate_left
                  · simp only [Act.put, List.setIfInBounds_toArray, List.set_cons_zero, List.set_cons_succ, i64_w, i32_w]
                    rfl
                  refine pure_ (i := 15) (N := some 32) (v := ?_) (a' := ?_) #[true, true, true, true, true, true, true, true, true, true, true, true, true, true, true, true, false, false, false, false, false, false, false, false, false] rfl rfl (any_of HT_.out (by kernel_rfl)) (fun _ _ _ h => h) (Or.inl ⟨by rfl, ?_⟩) ?_ ?_
                  rotate_left
                  · intro w'
                    go_simp
                    with_reducible rfl
                  rotate_left
                  · simp only [Act.put, List.setIfInBounds_toArray, List.set_cons_zero, List.set_cons_succ, i64_w, i32_w]
                    rfl
                  refine pure_ (i := 17) (N := some 34) (v := ?_) (a' := ?_) #[true, true, true, true, true, true, true, true, true, true, true, true, true, true, true, true, false, true, false, false, false, false, false, false, false] rfl rfl (any_of HT_.out (by kernel_rfl)) (fun _ _ _ h => h) (Or.inl ⟨by rfl, ?_⟩) ?_ ?_
                  rotate_left
                  · intro w'
                    go_simp
                    with_reducible rfl
                  rotate_left
                  · simp only [Act.put, List.setIfInBounds_toArray, List.set_cons_zero, List.set_cons_succ, i64_w, i32_w]
                    rfl
                  refine pure_ (i := 18) (N := some 35) (v := ?_) (a' := ?_) #[true, true, true, true, true, true, true, true, true, true, true, true, true, true, true, true, false, true, true, false, false, false, false, false, false] rfl rfl (any_of HT_.out (by kernel_rfl)) (fun _ _ _ h => h) (Or.inl ⟨by rfl, ?_⟩) ?_ ?_
                  rotate_left
                  · intro w'
                    go_simp
                    with_reducible rfl
                  rotate_left
                  · simp only [Act.put, List.setIfInBounds_toArray, List.set_cons_zero, List.set_cons_succ, i64_w, i32_w]
                    rfl
                  refine pure_ (i := 19) (N := some 36) (v := ?_) (a' := ?_) #[true, true, true, true, true, true, true, true, true, true, true, true, true, true, true, true, false, true, true, true, false, false, false, false, false] rfl rfl (any_of HT_.out (by kernel_rfl)) (fun _ _ _ h => h) (Or.inl ⟨by rfl, ?_⟩) ?_ ?_
                  rotate_left
                  · intro w'
                    go_simp
                    with_reducible rfl
                  rotate_left
                  · simp only [Act.put, List.setIfInBounds_toArray, List.set_cons_zero, List.set_cons_succ, i64_w, i32_w]
                    rfl
                  refine pure_ (i := 20) (N := some 37) (v := ?_) (a' := ?_) #[true, true, true, true, true, true, true, true, true, true, true, true, true, true, true, true, false, true, true, true, true, false, false, false, false] rfl rfl (any_of HT_.out (by kernel_rfl)) (fun _ _ _ h => h) (Or.inl ⟨by rfl, ?_⟩) ?_ ?_
                  rotate_left
                  · intro w'
                    go_simp
                    with_reducible rfl
                  rotate_left
                  · simp only [Act.put, List.setIfInBounds_toArray, List.set_cons_zero, List.set_cons_succ, i64_w, i32_w]
                    rfl
                  refine take_ (i := 16) (N := some 33) (v := ?_) (a' := ?_) #[true, true, true, true, true, true, true, true, true, true, true, true, true, true, true, true, true, true, true, true, true, false, false, false, false] rfl rfl (take_ofW HT_.out HW_.out (by kernel_rfl)) (fun _ _ _ h => h) (Or.inl ⟨by rfl, ?_⟩) hHeld ?_ ?_
                  rotate_left
                  · rintro w' ⟨s0, s1, s2, s3, s4, s5, s6, s7, s8, s9, s10, s11, s12, s13, s14, s15, s16, s17, s18, s19, s20, s21, s22, s23, s24, s25, s26, s27, s28, s29, s30, s31, s32, s33, s34, s35, s36, s37, s38, s39, s40, s41, s42, s43, s44, s45, s46, s47⟩
                    go_simp
                    with_reducible rfl
                  rotate_left
                  · simp only [Act.put, List.setIfInBounds_toArray, List.set_cons_zero, List.set_cons_succ, i64_w, i32_w]
                    rfl
                  refine take_ (i := 21) (N := some 38) (v := ?_) (a' := ?_) #[true, true, true, true, true, true, true, true, true, true, true, true, true, true, true, true, true, true, true, true, true, true, false, false, false] rfl rfl (take_ofW HT_.out HW_.out (by kernel_rfl)) (fun _ _ _ h => h) (Or.inl ⟨by rfl, ?_⟩) hHeld ?_ ?_
                  rotate_left
                  · rintro w' ⟨s0, s1, s2, s3, s4, s5, s6, s7, s8, s9, s10, s11, s12, s13, s14, s15, s16, s17, s18, s19, s20, s21, s22, s23, s24, s25, s26, s27, s28, s29, s30, s31, s32, s33, s34, s35, s36, s37, s38, s39, s40, s41, s42, s43, s44, s45, s46, s47⟩
                    go_simp
                    with_reducible rfl
                  rotate_left
                  · simp only [Act.put, List.setIfInBounds_toArray, List.set_cons_zero, List.set_cons_succ, i64_w, i32_w]
                    rfl
                  refine one_ (i := 22) (N := some 39) #[true, true, true, true, true, true, true, true, true, true, true, true, true, true, true, true, true, true, true, true, true, true, true, false, false] rfl rfl (one_of HT_.out (by kernel_rfl)) (by decide) (fun K hK => ?_)
                  refine goes_ Try.func17 (by kernel_rfl) rfl #[.agg #[.int .i64 ((rd_T49 l0 x5_1).f1.f0), .int .i64 ((rd_T49 l0 x5_1).f1.f1), .int .i64 ((rd_T49 l0 x5_1).f1.f2), .int .i64 ((rd_T49 l0 x5_1).f1.f3), .int .i64 ((rd_T49 l0 x5_1).f1.f4), .int .i64 ((rd_T49 l0 x5_1).f1.f5), .int .i64 ((rd_T49 l0 x5_1).f1.f6), .string ((rd_T49 l0 x5_1).f1.f7), .string ((rd_T49 l0 x5_1).f1.f8), .slice A288_10 ((rd_T49 l0 x5_1).f1.f9).length c288_10, .slice A288_11 ((rd_T49 l0 x5_1).f1.f10).length c288_11], .agg #[.int .i64 ((rd_T49 l1 x5_1).f1.f0), .int .i64 ((rd_T49 l1 x5_1).f1.f1), .int .i64 ((rd_T49 l1 x5_1).f1.f2), .int .i64 ((rd_T49 l1 x5_1).f1.f3), .int .i64 ((rd_T49 l1 x5_1).f1.f4), .int .i64 ((rd_T49 l1 x5_1).f1.f5), .int .i64 ((rd_T49 l1 x5_1).f1.f6), .string ((rd_T49 l1 x5_1).f1.f7), .string ((rd_T49 l1 x5_1).f1.f8), .slice A289_10 ((rd_T49 l1 x5_1).f1.f9).length c289_10, .slice A289_11 ((rd_T49 l1 x5_1).f1.f10).length c289_11]] (by rfl) rfl rfl (by (try simp only [List.map_toArray, List.map_cons, List.map_nil]); first | done | rfl | (simp only [List.length_drop, List.length_take]; rfl)) ?_
                  with_reducible refine (careenref04_Same.calls ((rd_T49 l0 x5_1).f1.f0) ((rd_T49 l0 x5_1).f1.f1) ((rd_T49 l0 x5_1).f1.f2) ((rd_T49 l0 x5_1).f1.f3) ((rd_T49 l0 x5_1).f1.f4) ((rd_T49 l0 x5_1).f1.f5) ((rd_T49 l0 x5_1).f1.f6) ((rd_T49 l0 x5_1).f1.f7) ((rd_T49 l0 x5_1).f1.f8) _ _ ((rd_T49 l0 x5_1).f1.f9) _ _ ((rd_T49 l0 x5_1).f1.f10) ((rd_T49 l1 x5_1).f1.f0) ((rd_T49 l1 x5_1).f1.f1) ((rd_T49 l1 x5_1).f1.f2) ((rd_T49 l1 x5_1).f1.f3) ((rd_T49 l1 x5_1).f1.f4) ((rd_T49 l1 x5_1).f1.f5) ((rd_T49 l1 x5_1).f1.f6) ((rd_T49 l1 x5_1).f1.f7) ((rd_T49 l1 x5_1).f1.f8) _ _ ((rd_T49 l1 x5_1).f1.f9) _ _ ((rd_T49 l1 x5_1).f1.f10) false _ ?side1 ?side2 ?side3 ?side4 ?side5 ?side6 ?side7 ?side8 A8.out).mono ?_
                  (case side1 => repeat (first | exact (Kd.C_below HR290_10.out HB.out) | (with_reducible refine Kd.C_alloc ?_ _) | (with_reducible refine Kd.C_drewN ?_ _) | (with_reducible refine Kd.C_drew ?_)))
                  (case side2 => exact HC290_10.out)
                  (case side3 => repeat (first | exact (Kd.C_below HR290_11.out HB.out) | (with_reducible refine Kd.C_alloc ?_ _) | (with_reducible refine Kd.C_drewN ?_ _) | (with_reducible refine Kd.C_drew ?_)))
                  (case side4 => exact HC290_11.out)
                  (case side5 => repeat (first | exact (Kd.C_below HR291_10.out HB.out) | (with_reducible refine Kd.C_alloc ?_ _) | (with_reducible refine Kd.C_drewN ?_ _) | (with_reducible refine Kd.C_drew ?_)))
                  (case side6 => exact HC291_10.out)
                  (case side7 => repeat (first | exact (Kd.C_below HR291_11.out HB.out) | (with_reducible refine Kd.C_alloc ?_ _) | (with_reducible refine Kd.C_drewN ?_ _) | (with_reducible refine Kd.C_drew ?_)))
                  (case side8 => exact HC291_11.out)
                  rintro e w13 ⟨rfl, hb⟩
                  refine ⟨_, rfl, ?_⟩
                  have n0_ := Aside0.mk (below_step (by repeat (first | (with_reducible first | exact HB.out | apply below_alloc | apply pw_below_drewN | apply below_drew1) | exact HB.out)) hb)
                  clear HB
                  have HB := n0_
                  clear n0_
                  (try clear hb)
                  (try clear hb2)
                  (try clear hk)
                  (try clear hi)
                  refine hK.out _ _ ⟨((HB.out.cell (World.block_lt_of_cell? w _ hw288_0)).trans hw288_0), ((HB.out.cell (World.block_lt_of_cell? w _ hw288_1)).trans hw288_1), ((HB.out.cell (World.block_lt_of_cell? w _ hw288_2)).trans hw288_2), ((HB.out.cell (World.block_lt_of_cell? w _ hw288_3)).trans hw288_3), ((HB.out.cell (World.block_lt_of_cell? w _ hw288_4)).trans hw288_4), ((HB.out.cell (World.block_lt_of_cell? w _ hw288_5)).trans hw288_5), ((HB.out.cell (World.block_lt_of_cell? w _ hw288_6)).trans hw288_6), ((HB.out.cell (World.block_lt_of_cell? w _ hw288_7)).trans hw288_7), ((HB.out.cell (World.block_lt_of_cell? w _ hw288_8)).trans hw288_8), ((HB.out.cell (World.block_lt_of_cell? w _ hw288_9)).trans hw288_9), ((HB.out.cell (World.block_lt_of_cell? w _ hw288_10)).trans hw288_10), ((HB.out.cell (World.block_lt_of_cell? w _ hw288_11)).trans hw288_11), ((HB.out.cell (World.block_lt_of_cell? w _ hw289_0)).trans hw289_0), ((HB.out.cell (World.block_lt_of_cell? w _ hw289_1)).trans hw289_1), ((HB.out.cell (World.block_lt_of_cell? w _ hw289_2)).trans hw289_2), ((HB.out.cell (World.block_lt_of_cell? w _ hw289_3)).trans hw289_3), ((HB.out.cell (World.block_lt_of_cell? w _ hw289_4)).trans hw289_4), ((HB.out.cell (World.block_lt_of_cell? w _ hw289_5)).trans hw289_5), ((HB.out.cell (World.block_lt_of_cell? w _ hw289_6)).trans hw289_6), ((HB.out.cell (World.block_lt_of_cell? w _ hw289_7)).trans hw289_7), ((HB.out.cell (World.block_lt_of_cell? w _ hw289_8)).trans hw289_8), ((HB.out.cell (World.block_lt_of_cell? w _ hw289_9)).trans hw289_9), ((HB.out.cell (World.block_lt_of_cell? w _ hw289_10)).trans hw289_10), ((HB.out.cell (World.block_lt_of_cell? w _ hw289_11)).trans hw289_11), ((HB.out.cell (World.block_lt_of_cell? w _ hw290_0)).trans hw290_0), ((HB.out.cell (World.block_lt_of_cell? w _ hw290_1)).trans hw290_1), ((HB.out.cell (World.block_lt_of_cell? w _ hw290_2)).trans hw290_2), ((HB.out.cell (World.block_lt_of_cell? w _ hw290_3)).trans hw290_3), ((HB.out.cell (World.block_lt_of_cell? w _ hw290_4)).trans hw290_4), ((HB.out.cell (World.block_lt_of_cell? w _ hw290_5)).trans hw290_5), ((HB.out.cell (World.block_lt_of_cell? w _ hw290_6)).trans hw290_6), ((HB.out.cell (World.block_lt_of_cell? w _ hw290_7)).trans hw290_7), ((HB.out.cell (World.block_lt_of_cell? w _ hw290_8)).trans hw290_8), ((HB.out.cell (World.block_lt_of_cell? w _ hw290_9)).trans hw290_9), ((HB.out.cell (World.block_lt_of_cell? w _ hw290_10)).trans hw290_10), ((HB.out.cell (World.block_lt_of_cell? w _ hw290_11)).trans hw290_11), ((HB.out.cell (World.block_lt_of_cell? w _ hw291_0)).trans hw291_0), ((HB.out.cell (World.block_lt_of_cell? w _ hw291_1)).trans hw291_1), ((HB.out.cell (World.block_lt_of_cell? w _ hw291_2)).trans hw291_2), ((HB.out.cell (World.block_lt_of_cell? w _ hw291_3)).trans hw291_3), ((HB.out.cell (World.block_lt_of_cell? w _ hw291_4)).trans hw291_4), ((HB.out.cell (World.block_lt_of_cell? w _ hw291_5)).trans hw291_5), ((HB.out.cell (World.block_lt_of_cell? w _ hw291_6)).trans hw291_6), ((HB.out.cell (World.block_lt_of_cell? w _ hw291_7)).trans hw291_7), ((HB.out.cell (World.block_lt_of_cell? w _ hw291_8)).trans hw291_8), ((HB.out.cell (World.block_lt_of_cell? w _ hw291_9)).trans hw291_9), ((HB.out.cell (World.block_lt_of_cell? w _ hw291_10)).trans hw291_10), ((HB.out.cell (World.block_lt_of_cell? w _ hw291_11)).trans hw291_11)⟩ (fun hHeld => ?_)
                  clear hK K
                  refine norm_ (a' := ?_) ?_ ?_
                  rotate_left
                  · show Act.put _ (some 39) _ = _
                    simp only [Act.put, List.setIfInBounds_toArray, List.set_cons_zero, List.set_cons_succ, i64_w, i32_w]
                    rfl
                  refine pure_ (i := 23) (N := some 40) (v := ?_) (a' := ?_) #[true, true, true, true, true, true, true, true, true, true, true, true, true, true, true, true, true, true, true, true, true, true, true, true, false] rfl rfl (any_of HT_.out (by kernel_rfl)) (fun _ _ _ h => h) (Or.inl ⟨by rfl, ?_⟩) ?_ ?_
                  rotate_left
                  · intro w'
                    go_simp
                    with_reducible rfl
                  rotate_left
                  · simp only [Act.put, List.setIfInBounds_toArray, List.set_cons_zero, List.set_cons_succ, i64_w, i32_w]
                    rfl
                  refine pure_ (i := 24) (N := some 41) (v := ?_) (a' := ?_) #[true, true, true, true, true, true, true, true, true, true, true, true, true, true, true, true, true, true, true, true, true, true, true, true, true] rfl rfl (any_of HT_.out (by kernel_rfl)) (fun _ _ _ h => h) (Or.inl ⟨by rfl, ?_⟩) ?_ ?_
                  rotate_left
                  · intro w'
                    go_simp
                    with_reducible rfl
                  rotate_left
                  · simp only [Act.put, List.setIfInBounds_toArray, List.set_cons_zero, List.set_cons_succ, i64_w, i32_w]
                    rfl
                  refine done_ (done_of HT_.out (by kernel_rfl)) ?_
                  try go_wp2
                  go_ret
                  exact ⟨by first | rfl | (simp [errW_none, errW_some] <;> rfl) | (simp [*, errW_none, errW_some] <;> rfl), by repeat (first | (with_reducible first | exact HB.out | apply below_alloc | apply pw_below_drewN | apply below_drew1) | exact HB.out)⟩
              · rw [if_neg c7] at H
                have c7b0 : (((rd_T49 l0 x5_1).f0) == ((rd_T49 l1 x5_1).f0)) = false := beq_eq_false_iff_ne.mpr c7
                have c7b1 : (((rd_T49 l0 x5_1).f0) != ((rd_T49 l1 x5_1).f0)) = true := bne_iff_ne.mpr c7
                obtain rfl := Option.some.inj H
                try go_wp2
                have n0_ := Aside0.mk (below_drew1 HB.out)
                clear HB
                have HB := n0_
                clear n0_
                have p288 : 0 ≤ (x5_1 : Int) := of_decide_eq_true (by first | (with_reducible assumption) | assumption)
                have q288 : x5_1 < (l0.length : Int) := of_decide_eq_true (by first | (with_reducible assumption) | assumption)
                obtain ⟨ad288, A288_10, c288_10, A288_11, c288_11, e288, hx288_0, hx288_1, hx288_2, hx288_3, hx288_4, hx288_5, hx288_6, hx288_7, hx288_8, hx288_9, hx288_10, hx288_11, hl288_10, hi288_10, hl288_11, hi288_11⟩ := at_T49 HR0.out x5_1 p288 q288
                have hw288_11 := hx288_11
                have hw288_10 := hx288_10
                have hw288_9 := hx288_9
                have hw288_8 := hx288_8
                have hw288_7 := hx288_7
                have hw288_6 := hx288_6
                have hw288_5 := hx288_5
                have hw288_4 := hx288_4
                have hw288_3 := hx288_3
                have hw288_2 := hx288_2
                have hw288_1 := hx288_1
                have hw288_0 := hx288_0
                cases e288
                replace hx288_0 := (HB.out.cell (World.block_lt_of_cell? w _ hx288_0)).trans hx288_0
                replace hx288_1 := (HB.out.cell (World.block_lt_of_cell? w _ hx288_1)).trans hx288_1
                replace hx288_2 := (HB.out.cell (World.block_lt_of_cell? w _ hx288_2)).trans hx288_2
                replace hx288_3 := (HB.out.cell (World.block_lt_of_cell? w _ hx288_3)).trans hx288_3
                replace hx288_4 := (HB.out.cell (World.block_lt_of_cell? w _ hx288_4)).trans hx288_4
                replace hx288_5 := (HB.out.cell (World.block_lt_of_cell? w _ hx288_5)).trans hx288_5
                replace hx288_6 := (HB.out.cell (World.block_lt_of_cell? w _ hx288_6)).trans hx288_6
                replace hx288_7 := (HB.out.cell (World.block_lt_of_cell? w _ hx288_7)).trans hx288_7
                replace hx288_8 := (HB.out.cell (World.block_lt_of_cell? w _ hx288_8)).trans hx288_8
                replace hx288_9 := (HB.out.cell (World.block_lt_of_cell? w _ hx288_9)).trans hx288_9
                replace hx288_10 := (HB.out.cell (World.block_lt_of_cell? w _ hx288_10)).trans hx288_10
                replace hx288_11 := (HB.out.cell (World.block_lt_of_cell? w _ hx288_11)).trans hx288_11
                have HR288_10 := Aside0.mk hi288_10
                have HC288_10 := Aside0.mk hl288_10
                clear hi288_10 hl288_10
                have HR288_11 := Aside0.mk hi288_11
                have HC288_11 := Aside0.mk hl288_11
                clear hi288_11 hl288_11
                replace p288 := eq_true p288
                replace q288 := eq_true q288
                have p289 : 0 ≤ (x5_1 : Int) := of_decide_eq_true (by first | (with_reducible assumption) | assumption)
                have q289 : x5_1 < (l1.length : Int) := of_decide_eq_true (by first | (with_reducible assumption) | assumption)
                obtain ⟨ad289, A289_10, c289_10, A289_11, c289_11, e289, hx289_0, hx289_1, hx289_2, hx289_3, hx289_4, hx289_5, hx289_6, hx289_7, hx289_8, hx289_9, hx289_10, hx289_11, hl289_10, hi289_10, hl289_11, hi289_11⟩ := at_T49 HR1.out x5_1 p289 q289
                have hw289_11 := hx289_11
                have hw289_10 := hx289_10
                have hw289_9 := hx289_9
                have hw289_8 := hx289_8
                have hw289_7 := hx289_7
                have hw289_6 := hx289_6
                have hw289_5 := hx289_5
                have hw289_4 := hx289_4
                have hw289_3 := hx289_3
                have hw289_2 := hx289_2
                have hw289_1 := hx289_1
                have hw289_0 := hx289_0
                cases e289
                replace hx289_0 := (HB.out.cell (World.block_lt_of_cell? w _ hx289_0)).trans hx289_0
                replace hx289_1 := (HB.out.cell (World.block_lt_of_cell? w _ hx289_1)).trans hx289_1
                replace hx289_2 := (HB.out.cell (World.block_lt_of_cell? w _ hx289_2)).trans hx289_2
                replace hx289_3 := (HB.out.cell (World.block_lt_of_cell? w _ hx289_3)).trans hx289_3
                replace hx289_4 := (HB.out.cell (World.block_lt_of_cell? w _ hx289_4)).trans hx289_4
                replace hx289_5 := (HB.out.cell (World.block_lt_of_cell? w _ hx289_5)).trans hx289_5
                replace hx289_6 := (HB.out.cell (World.block_lt_of_cell? w _ hx289_6)).trans hx289_6
                replace hx289_7 := (HB.out.cell (World.block_lt_of_cell? w _ hx289_7)).trans hx289_7
                replace hx289_8 := (HB.out.cell (World.block_lt_of_cell? w _ hx289_8)).trans hx289_8
                replace hx289_9 := (HB.out.cell (World.block_lt_of_cell? w _ hx289_9)).trans hx289_9
                replace hx289_10 := (HB.out.cell (World.block_lt_of_cell? w _ hx289_10)).trans hx289_10
                replace hx289_11 := (HB.out.cell (World.block_lt_of_cell? w _ hx289_11)).trans hx289_11
                have HR289_10 := Aside0.mk hi289_10
                have HC289_10 := Aside0.mk hl289_10
                clear hi289_10 hl289_10
                have HR289_11 := Aside0.mk hi289_11
                have HC289_11 := Aside0.mk hl289_11
                clear hi289_11 hl289_11
                replace p289 := eq_true p289
                replace q289 := eq_true q289
                refine start_ (n := 25) (S := fun w' => w'.cell? (ad288.add ((x5_1).toNat * 12)) = some (.int .i64 ((rd_T49 l0 x5_1).f0)) ∧ w'.cell? ⟨(ad288.add ((x5_1).toNat * 12)).block, (ad288.add ((x5_1).toNat * 12)).off + 1, none⟩ = some (.int .i64 ((rd_T49 l0 x5_1).f1.f0)) ∧ w'.cell? ⟨(ad288.add ((x5_1).toNat * 12)).block, (ad288.add ((x5_1).toNat * 12)).off + 2, none⟩ = some (.int .i64 ((rd_T49 l0 x5_1).f1.f1)) ∧ w'.cell? ⟨(ad288.add ((x5_1).toNat * 12)).block, (ad288.add ((x5_1).toNat * 12)).off + 3, none⟩ = some (.int .i64 ((rd_T49 l0 x5_1).f1.f2)) ∧ w'.cell? ⟨(ad288.add ((x5_1).toNat * 12)).block, (ad288.add ((x5_1).toNat * 12)).off + 4, none⟩ = some (.int .i64 ((rd_T49 l0 x5_1).f1.f3)) ∧ w'.cell? ⟨(ad288.add ((x5_1).toNat * 12)).block, (ad288.add ((x5_1).toNat * 12)).off + 5, none⟩ = some (.int .i64 ((rd_T49 l0 x5_1).f1.f4)) ∧ w'.cell? ⟨(ad288.add ((x5_1).toNat * 12)).block, (ad288.add ((x5_1).toNat * 12)).off + 6, none⟩ = some (.int .i64 ((rd_T49 l0 x5_1).f1.f5)) ∧ w'.cell? ⟨(ad288.add ((x5_1).toNat * 12)).block, (ad288.add ((x5_1).toNat * 12)).off + 7, none⟩ = some (.int .i64 ((rd_T49 l0 x5_1).f1.f6)) ∧ w'.cell? ⟨(ad288.add ((x5_1).toNat * 12)).block, (ad288.add ((x5_1).toNat * 12)).off + 8, none⟩ = some (.string ((rd_T49 l0 x5_1).f1.f7)) ∧ w'.cell? ⟨(ad288.add ((x5_1).toNat * 12)).block, (ad288.add ((x5_1).toNat * 12)).off + 9, none⟩ = some (.string ((rd_T49 l0 x5_1).f1.f8)) ∧ w'.cell? ⟨(ad288.add ((x5_1).toNat * 12)).block, (ad288.add ((x5_1).toNat * 12)).off + 10, none⟩ = some (.slice A288_10 ((rd_T49 l0 x5_1).f1.f9).length c288_10) ∧ w'.cell? ⟨(ad288.add ((x5_1).toNat * 12)).block, (ad288.add ((x5_1).toNat * 12)).off + 11, none⟩ = some (.slice A288_11 ((rd_T49 l0 x5_1).f1.f10).length c288_11) ∧ w'.cell? (ad289.add ((x5_1).toNat * 12)) = some (.int .i64 ((rd_T49 l1 x5_1).f0)) ∧ w'.cell? ⟨(ad289.add ((x5_1).toNat * 12)).block, (ad289.add ((x5_1).toNat * 12)).off + 1, none⟩ = some (.int .i64 ((rd_T49 l1 x5_1).f1.f0)) ∧ w'.cell? ⟨(ad289.add ((x5_1).toNat * 12)).block, (ad289.add ((x5_1).toNat * 12)).off + 2, none⟩ = some (.int .i64 ((rd_T49 l1 x5_1).f1.f1)) ∧ w'.cell? ⟨(ad289.add ((x5_1).toNat * 12)).block, (ad289.add ((x5_1).toNat * 12)).off + 3, none⟩ = some (.int .i64 ((rd_T49 l1 x5_1).f1.f2)) ∧ w'.cell? ⟨(ad289.add ((x5_1).toNat * 12)).block, (ad289.add ((x5_1).toNat * 12)).off + 4, none⟩ = some (.int .i64 ((rd_T49 l1 x5_1).f1.f3)) ∧ w'.cell? ⟨(ad289.add ((x5_1).toNat * 12)).block, (ad289.add ((x5_1).toNat * 12)).off + 5, none⟩ = some (.int .i64 ((rd_T49 l1 x5_1).f1.f4)) ∧ w'.cell? ⟨(ad289.add ((x5_1).toNat * 12)).block, (ad289.add ((x5_1).toNat * 12)).off + 6, none⟩ = some (.int .i64 ((rd_T49 l1 x5_1).f1.f5)) ∧ w'.cell? ⟨(ad289.add ((x5_1).toNat * 12)).block, (ad289.add ((x5_1).toNat * 12)).off + 7, none⟩ = some (.int .i64 ((rd_T49 l1 x5_1).f1.f6)) ∧ w'.cell? ⟨(ad289.add ((x5_1).toNat * 12)).block, (ad289.add ((x5_1).toNat * 12)).off + 8, none⟩ = some (.string ((rd_T49 l1 x5_1).f1.f7)) ∧ w'.cell? ⟨(ad289.add ((x5_1).toNat * 12)).block, (ad289.add ((x5_1).toNat * 12)).off + 9, none⟩ = some (.string ((rd_T49 l1 x5_1).f1.f8)) ∧ w'.cell? ⟨(ad289.add ((x5_1).toNat * 12)).block, (ad289.add ((x5_1).toNat * 12)).off + 10, none⟩ = some (.slice A289_10 ((rd_T49 l1 x5_1).f1.f9).length c289_10) ∧ w'.cell? ⟨(ad289.add ((x5_1).toNat * 12)).block, (ad289.add ((x5_1).toNat * 12)).off + 11, none⟩ = some (.slice A289_11 ((rd_T49 l1 x5_1).f1.f10).length c289_11)) (ds := []) #[false, false, false, false, false, false, false, false, false, false, false, false, false, false, false, false, false, false, false, false, false, false, false, false, false] (by kernel_rfl) rfl rfl ⟨((HB.out.cell (World.block_lt_of_cell? w _ hw288_0)).trans hw288_0), ((HB.out.cell (World.block_lt_of_cell? w _ hw288_1)).trans hw288_1), ((HB.out.cell (World.block_lt_of_cell? w _ hw288_2)).trans hw288_2), ((HB.out.cell (World.block_lt_of_cell? w _ hw288_3)).trans hw288_3), ((HB.out.cell (World.block_lt_of_cell? w _ hw288_4)).trans hw288_4), ((HB.out.cell (World.block_lt_of_cell? w _ hw288_5)).trans hw288_5), ((HB.out.cell (World.block_lt_of_cell? w _ hw288_6)).trans hw288_6), ((HB.out.cell (World.block_lt_of_cell? w _ hw288_7)).trans hw288_7), ((HB.out.cell (World.block_lt_of_cell? w _ hw288_8)).trans hw288_8), ((HB.out.cell (World.block_lt_of_cell? w _ hw288_9)).trans hw288_9), ((HB.out.cell (World.block_lt_of_cell? w _ hw288_10)).trans hw288_10), ((HB.out.cell (World.block_lt_of_cell? w _ hw288_11)).trans hw288_11), ((HB.out.cell (World.block_lt_of_cell? w _ hw289_0)).trans hw289_0), ((HB.out.cell (World.block_lt_of_cell? w _ hw289_1)).trans hw289_1), ((HB.out.cell (World.block_lt_of_cell? w _ hw289_2)).trans hw289_2), ((HB.out.cell (World.block_lt_of_cell? w _ hw289_3)).trans hw289_3), ((HB.out.cell (World.block_lt_of_cell? w _ hw289_4)).trans hw289_4), ((HB.out.cell (World.block_lt_of_cell? w _ hw289_5)).trans hw289_5), ((HB.out.cell (World.block_lt_of_cell? w _ hw289_6)).trans hw289_6), ((HB.out.cell (World.block_lt_of_cell? w _ hw289_7)).trans hw289_7), ((HB.out.cell (World.block_lt_of_cell? w _ hw289_8)).trans hw289_8), ((HB.out.cell (World.block_lt_of_cell? w _ hw289_9)).trans hw289_9), ((HB.out.cell (World.block_lt_of_cell? w _ hw289_10)).trans hw289_10), ((HB.out.cell (World.block_lt_of_cell? w _ hw289_11)).trans hw289_11)⟩ (fun hHeld => ?_); refine with_tabW careenref04_SameAll.tab6 careenref04_SameAll.bits6 (fun HT_ HW_ => ?_)
                generalize wr.drew = w14 at HB HR288_10 HR288_11 HR289_10 HR289_11 hx288_0 hx288_1 hx288_10 hx288_11 hx288_2 hx288_3 hx288_4 hx288_5 hx288_6 hx288_7 hx288_8 hx288_9 hx289_0 hx289_1 hx289_10 hx289_11 hx289_2 hx289_3 hx289_4 hx289_5 hx289_6 hx289_7 hx289_8 hx289_9 hHeld ⊢
                refine pure_ (i := 0) (N := some 17) (v := ?_) (a' := ?_) #[true, false, false, false, false, false, false, false, false, false, false, false, false, false, false, false, false, false, false, false, false, false, false, false, false] rfl rfl (any_of HT_.out (by kernel_rfl)) (fun _ _ _ h => h) (Or.inl ⟨by rfl, ?_⟩) ?_ ?_
                rotate_left
                · intro w'
                  go_simp
                  with_reducible rfl
                rotate_left
                · simp only [Act.put, List.setIfInBounds_toArray, List.set_cons_zero, List.set_cons_succ, i64_w, i32_w]
                  rfl
                refine pure_ (i := 1) (N := some 18) (v := ?_) (a' := ?_) #[true, true, false, false, false, false, false, false, false, false, false, false, false, false, false, false, false, false, false, false, false, false, false, false, false] rfl rfl (any_of HT_.out (by kernel_rfl)) (fun _ _ _ h => h) (Or.inl ⟨by rfl, ?_⟩) ?_ ?_
                rotate_left
                · intro w'
                  go_simp
                  with_reducible rfl
                rotate_left
                · simp only [Act.put, List.setIfInBounds_toArray, List.set_cons_zero, List.set_cons_succ, i64_w, i32_w]
                  rfl
                refine pure_ (i := 2) (N := some 19) (v := ?_) (a' := ?_) #[true, true, true, false, false, false, false, false, false, false, false, false, false, false, false, false, false, false, false, false, false, false, false, false, false] rfl rfl (any_of HT_.out (by kernel_rfl)) (fun _ _ _ h => h) (Or.inl ⟨by rfl, ?_⟩) ?_ ?_
                rotate_left
                · intro w'
                  go_simp
                  with_reducible rfl
                rotate_left
                · simp only [Act.put, List.setIfInBounds_toArray, List.set_cons_zero, List.set_cons_succ, i64_w, i32_w]
                  rfl
                refine pure_ (i := 3) (N := some 20) (v := ?_) (a' := ?_) #[true, true, true, true, false, false, false, false, false, false, false, false, false, false, false, false, false, false, false, false, false, false, false, false, false] rfl rfl (any_of HT_.out (by kernel_rfl)) (fun _ _ _ h => h) (Or.inl ⟨by rfl, ?_⟩) ?_ ?_
                rotate_left
                · intro w'
                  go_simp
                  with_reducible rfl
                rotate_left
                · simp only [Act.put, List.setIfInBounds_toArray, List.set_cons_zero, List.set_cons_succ, i64_w, i32_w]
                  rfl
                refine pure_ (i := 5) (N := some 22) (v := ?_) (a' := ?_) #[true, true, true, true, false, true, false, false, false, false, false, false, false, false, false, false, false, false, false, false, false, false, false, false, false] rfl rfl (any_of HT_.out (by kernel_rfl)) (fun _ _ _ h => h) (Or.inl ⟨by rfl, ?_⟩) ?_ ?_
                rotate_left
                · intro w'
                  go_simp
                  with_reducible rfl
                rotate_left
                · simp only [Act.put, List.setIfInBounds_toArray, List.set_cons_zero, List.set_cons_succ, i64_w, i32_w]
                  rfl
                refine pure_ (i := 6) (N := some 23) (v := ?_) (a' := ?_) #[true, true, true, true, false, true, true, false, false, false, false, false, false, false, false, false, false, false, false, false, false, false, false, false, false] rfl rfl (any_of HT_.out (by kernel_rfl)) (fun _ _ _ h => h) (Or.inl ⟨by rfl, ?_⟩) ?_ ?_
                rotate_left
                · intro w'
                  go_simp
                  with_reducible rfl
                rotate_left
                · simp only [Act.put, List.setIfInBounds_toArray, List.set_cons_zero, List.set_cons_succ, i64_w, i32_w]
                  rfl
                refine pure_ (i := 7) (N := some 24) (v := ?_) (a' := ?_) #[true, true, true, true, false, true, true, true, false, false, false, false, false, false, false, false, false, false, false, false, false, false, false, false, false] rfl rfl (any_of HT_.out (by kernel_rfl)) (fun _ _ _ h => h) (Or.inl ⟨by rfl, ?_⟩) ?_ ?_
                rotate_left
                · intro w'
                  go_simp
                  with_reducible rfl
                rotate_left
                · simp only [Act.put, List.setIfInBounds_toArray, List.set_cons_zero, List.set_cons_succ, i64_w, i32_w]
                  rfl
                refine pure_ (i := 8) (N := some 25) (v := ?_) (a' := ?_) #[true, true, true, true, false, true, true, true, true, false, false, false, false, false, false, false, false, false, false, false, false, false, false, false, false] rfl rfl (any_of HT_.out (by kernel_rfl)) (fun _ _ _ h => h) (Or.inl ⟨by rfl, ?_⟩) ?_ ?_
                rotate_left
                · intro w'
                  go_simp
                  with_reducible rfl
                rotate_left
                · simp only [Act.put, List.setIfInBounds_toArray, List.set_cons_zero, List.set_cons_succ, i64_w, i32_w]
                  rfl
                refine take_ (i := 4) (N := some 21) (v := ?_) (a' := ?_) #[true, true, true, true, true, true, true, true, true, false, false, false, false, false, false, false, false, false, false, false, false, false, false, false, false] rfl rfl (take_ofW HT_.out HW_.out (by kernel_rfl)) (fun _ _ _ h => h) (Or.inl ⟨by rfl, ?_⟩) hHeld ?_ ?_
                rotate_left
                · rintro w' ⟨s0, s1, s2, s3, s4, s5, s6, s7, s8, s9, s10, s11, s12, s13, s14, s15, s16, s17, s18, s19, s20, s21, s22, s23⟩
                  go_simp
                  with_reducible rfl
                rotate_left
                · simp only [Act.put, List.setIfInBounds_toArray, List.set_cons_zero, List.set_cons_succ, i64_w, i32_w]
                  rfl
                refine take_ (i := 9) (N := some 26) (v := ?_) (a' := ?_) #[true, true, true, true, true, true, true, true, true, true, false, false, false, false, false, false, false, false, false, false, false, false, false, false, false] rfl rfl (take_ofW HT_.out HW_.out (by kernel_rfl)) (fun _ _ _ h => h) (Or.inl ⟨by rfl, ?_⟩) hHeld ?_ ?_
                rotate_left
                · rintro w' ⟨s0, s1, s2, s3, s4, s5, s6, s7, s8, s9, s10, s11, s12, s13, s14, s15, s16, s17, s18, s19, s20, s21, s22, s23⟩
                  go_simp
                  with_reducible rfl
                rotate_left
                · simp only [Act.put, List.setIfInBounds_toArray, List.set_cons_zero, List.set_cons_succ, i64_w, i32_w]
                  rfl
                refine pure_ (i := 10) (N := some 27) (v := ?_) (a' := ?_) #[true, true, true, true, true, true, true, true, true, true, true, false, false, false, false, false, false, false, false, false, false, false, false, false, false] rfl rfl (any_of HT_.out (by kernel_rfl)) (fun _ _ _ h => h) (Or.inl ⟨by rfl, ?_⟩) ?_ ?_
                rotate_left
                · intro w'
                  go_simp
                  with_reducible rfl
                rotate_left
                · simp only [Act.put, List.setIfInBounds_toArray, List.set_cons_zero, List.set_cons_succ, i64_w, i32_w]
                  rfl
                refine pure_ (i := 11) (N := some 28) (v := ?_) (a' := ?_) #[true, true, true, true, true, true, true, true, true, true, true, true, false, false, false, false, false, false, false, false, false, false, false, false, false] rfl rfl (any_of HT_.out (by kernel_rfl)) (fun _ _ _ h => h) (Or.inl ⟨by rfl, ?_⟩) ?_ ?_
                rotate_left
                · intro w'
                  go_simp
                  with_reducible rfl
                rotate_left
                · simp only [Act.put, List.setIfInBounds_toArray, List.set_cons_zero, List.set_cons_succ, i64_w, i32_w]
                  rfl
                refine pure_ (i := 12) (N := some 29) (v := undef) (a' := ?_) #[true, true, true, true, true, true, true, true, true, true, true, true, true, false, false, false, false, false, false, false, false, false, false, false, false] rfl rfl (any_of HT_.out (by kernel_rfl)) (fun _ _ _ h => h) (Or.inr ⟨by rfl, rfl⟩) ?_ ?_
                rotate_left
                · simp only [Act.put, List.setIfInBounds_toArray, List.set_cons_zero, List.set_cons_succ, i64_w, i32_w]
                  rfl
                refine pure_ (i := 13) (N := some 30) (v := undef) (a' := ?_) #[true, true, true, true, true, true, true, true, true, true, true, true, true, true, false, false, false, false, false, false, false, false, false, false, false] rfl rfl (any_of HT_.out (by kernel_rfl)) (fun _ _ _ h => h) (Or.inr ⟨by rfl, rfl⟩) ?_ ?_
                rotate_left
                · simp only [Act.put, List.setIfInBounds_toArray, List.set_cons_zero, List.set_cons_succ, i64_w, i32_w]
                  rfl
                refine pure_ (i := 14) (N := some 31) (v := undef) (a' := ?_) #[true, true, true, true, true, true, true, true, true, true, true, true, true, true, true, false, false, false, false, false, false, false, false, false, false] rfl rfl (any_of HT_.out (by kernel_rfl)) (fun _ _ _ h => h) (Or.inr ⟨by rfl, rfl⟩) ?_ ?_
                rotate_left
                · simp only [Act.put, List.setIfInBounds_toArray, List.set_cons_zero, List.set_cons_succ, i64_w, i32_w]
                  rfl
                refine pure_ (i := 15) (N := some 32) (v := undef) (a' := ?_) #[true, true, true, true, true, true, true, true, true, true, true, true, true, true, true, true, false, false, false, false, false, false, false, false, false] rfl rfl (any_of HT_.out (by kernel_rfl)) (fun _ _ _ h => h) (Or.inr ⟨by rfl, rfl⟩) ?_ ?_
                rotate_left
                · simp only [Act.put, List.setIfInBounds_toArray, List.set_cons_zero, List.set_cons_succ, i64_w, i32_w]
                  rfl
                refine pure_ (i := 16) (N := some 33) (v := undef) (a' := ?_) #[true, true, true, true, true, true, true, true, true, true, true, true, true, true, true, true, true, false, false, false, false, false, false, false, false] rfl rfl (any_of HT_.out (by kernel_rfl)) (fun _ _ _ h => h) (Or.inr ⟨by rfl, rfl⟩) ?_ ?_
                rotate_left
                · simp only [Act.put, List.setIfInBounds_toArray, List.set_cons_zero, List.set_cons_succ, i64_w, i32_w]
                  rfl
                refine pure_ (i := 17) (N := some 34) (v := undef) (a' := ?_) #[true, true, true, true, true, true, true, true, true, true, true, true, true, true, true, true, true, true, false, false, false, false, false, false, false] rfl rfl (any_of HT_.out (by kernel_rfl)) (fun _ _ _ h => h) (Or.inr ⟨by rfl, rfl⟩) ?_ ?_
                rotate_left
                · simp only [Act.put, List.setIfInBounds_toArray, List.set_cons_zero, List.set_cons_succ, i64_w, i32_w]
                  rfl
                refine pure_ (i := 18) (N := some 35) (v := undef) (a' := ?_) #[true, true, true, true, true, true, true, true, true, true, true, true, true, true, true, true, true, true, true, false, false, false, false, false, false] rfl rfl (any_of HT_.out (by kernel_rfl)) (fun _ _ _ h => h) (Or.inr ⟨by rfl, rfl⟩) ?_ ?_
                rotate_left
                · simp only [Act.put, List.setIfInBounds_toArray, List.set_cons_zero, List.set_cons_succ, i64_w, i32_w]
                  rfl
                refine pure_ (i := 19) (N := some 36) (v := undef) (a' := ?_) #[true, true, true, true, true, true, true, true, true, true, true, true, true, true, true, true, true, true, true, true, false, false, false, false, false] rfl rfl (any_of HT_.out (by kernel_rfl)) (fun _ _ _ h => h) (Or.inr ⟨by rfl, rfl⟩) ?_ ?_
                rotate_left
                · simp only [Act.put, List.setIfInBounds_toArray, List.set_cons_zero, List.set_cons_succ, i64_w, i32_w]
                  rfl
                refine pure_ (i := 20) (N := some 37) (v := undef) (a' := ?_) #[true, true, true, true, true, true, true, true, true, true, true, true, true, true, true, true, true, true, true, true, true, false, false, false, false] rfl rfl (any_of HT_.out (by kernel_rfl)) (fun _ _ _ h => h) (Or.inr ⟨by rfl, rfl⟩) ?_ ?_
                rotate_left
                · simp only [Act.put, List.setIfInBounds_toArray, List.set_cons_zero, List.set_cons_succ, i64_w, i32_w]
                  rfl
                refine pure_ (i := 21) (N := some 38) (v := undef) (a' := ?_) #[true, true, true, true, true, true, true, true, true, true, true, true, true, true, true, true, true, true, true, true, true, true, false, false, false] rfl rfl (any_of HT_.out (by kernel_rfl)) (fun _ _ _ h => h) (Or.inr ⟨by rfl, rfl⟩) ?_ ?_
                rotate_left
                · simp only [Act.put, List.setIfInBounds_toArray, List.set_cons_zero, List.set_cons_succ, i64_w, i32_w]
                  rfl
                refine pure_ (i := 22) (N := some 39) (v := undef) (a' := ?_) #[true, true, true, true, true, true, true, true, true, true, true, true, true, true, true, true, true, true, true, true, true, true, true, false, false] rfl rfl (any_of HT_.out (by kernel_rfl)) (fun _ _ _ h => h) (Or.inr ⟨by rfl, rfl⟩) ?_ ?_
                rotate_left
                · simp only [Act.put, List.setIfInBounds_toArray, List.set_cons_zero, List.set_cons_succ, i64_w, i32_w]
                  rfl
                refine pure_ (i := 23) (N := some 40) (v := undef) (a' := ?_) #[true, true, true, true, true, true, true, true, true, true, true, true, true, true, true, true, true, true, true, true, true, true, true, true, false] rfl rfl (any_of HT_.out (by kernel_rfl)) (fun _ _ _ h => h) (Or.inr ⟨by rfl, rfl⟩) ?_ ?_
                rotate_left
                · simp only [Act.put, List.setIfInBounds_toArray, List.set_cons_zero, List.set_cons_succ, i64_w, i32_w]
                  rfl
                refine pure_ (i := 24) (N := some 41) (v := ?_) (a' := ?_) #[true, true, true, true, true, true, true, true, true, true, true, true, true, true, true, true, true, true, true, true, true, true, true, true, true] rfl rfl (any_of HT_.out (by kernel_rfl)) (fun _ _ _ h => h) (Or.inl ⟨by rfl, ?_⟩) ?_ ?_
                rotate_left
                · intro w'
                  go_simp
                  with_reducible rfl
                rotate_left
                · simp only [Act.put, List.setIfInBounds_toArray, List.set_cons_zero, List.set_cons_succ, i64_w, i32_w]
                  rfl
                refine done_ (done_of HT_.out (by kernel_rfl)) ?_
                try go_wp2
                go_ret
                exact ⟨by first | rfl | (simp [errW_none, errW_some] <;> rfl) | (simp [*, errW_none, errW_some] <;> rfl), by repeat (first | (with_reducible first | exact HB.out | apply below_alloc | apply pw_below_drewN | apply below_drew1) | exact HB.out)⟩
            · rw [if_neg c6] at H
              exact absurd H (by simp)
          · rw [if_neg c5] at H
            exact absurd H (by simp)
        · rw [if_neg c4] at H
          have c4b0 : decide (x5_1 < (l0.length : Int)) = false := decide_eq_false c4
          clear c4
          obtain rfl := Option.some.inj H
          go_wp2
          go_ret
          exact ⟨by first | rfl | (simp [errW_none, errW_some] <;> rfl) | (simp [*, errW_none, errW_some] <;> rfl), by repeat (first | (with_reducible first | exact HB.out | apply below_alloc | apply pw_below_drewN | apply below_drew1) | exact HB.out)⟩
  · rw [if_neg c3] at H
    have c3b0 : ((l0.length : Int) == (l1.length : Int)) = false := beq_eq_false_iff_ne.mpr c3
    have c3b1 : ((l0.length : Int) != (l1.length : Int)) = true := bne_iff_ne.mpr c3
    have c3b2 : (l0.length == l1.length) = false := by first | simpa using c3 | (simp at c3 ⊢; omega)
    obtain rfl := Option.some.inj H
    go_enter Try.func22, Try.ntmps22
    go_wp2
    go_ret
    exact ⟨by first | rfl | (simp [errW_none, errW_some] <;> rfl) | (simp [*, errW_none, errW_some] <;> rfl), by repeat (first | (with_reducible first | exact HB.out | apply below_alloc | apply pw_below_drewN | apply below_drew1) | exact HB.out)⟩
end Go.Proofs.Ytcfknakmamcinaa.X4b
