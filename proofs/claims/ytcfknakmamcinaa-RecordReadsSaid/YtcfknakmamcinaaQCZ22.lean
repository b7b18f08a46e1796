import Derived.Test.YtcfknakmamcinaaQCZ0
import Derived.Test.YtcfknakmamcinaaQCZ1
import Derived.Test.YtcfknakmamcinaaQCZ2
import Derived.Test.YtcfknakmamcinaaQCZ3
import Derived.Test.YtcfknakmamcinaaQCZ4
import Derived.Test.YtcfknakmamcinaaQCZ5
import Derived.Test.YtcfknakmamcinaaQCZ6
import Derived.Test.YtcfknakmamcinaaQCZ7
import Derived.Test.YtcfknakmamcinaaQCZ8
import Derived.Test.YtcfknakmamcinaaQCZ9
import Derived.Test.YtcfknakmamcinaaQCZ10
import Derived.Test.YtcfknakmamcinaaQCZ11
import Derived.Test.YtcfknakmamcinaaQCZ12
import Derived.Test.YtcfknakmamcinaaQCZ13
import Derived.Test.YtcfknakmamcinaaQCZ14
import Derived.Test.YtcfknakmamcinaaQCZ15
import Derived.Test.YtcfknakmamcinaaQCZ16
import Derived.Test.YtcfknakmamcinaaQCZ17
import Derived.Test.YtcfknakmamcinaaQCZ18
import Derived.Test.YtcfknakmamcinaaQCZ19
import Derived.Test.YtcfknakmamcinaaQCZ20
import Derived.Test.YtcfknakmamcinaaQCZ21
-- Written by this session's xprint.py (the kit's print, with contracts proved by hand).
namespace Go.Proofs.Ytcfknakmamcinaa.X4r
open Go.Proofs.Ytcfknakmamcinaa.X4 Go.RowKit Go.Proofs.YtcfknakmamcinaaW.PrintWords Go.Proofs.YtcfknakmamcinaaW.PrintLast Go.Proofs.YtcfknakmamcinaaW.PrintMore
attribute [local go_sem] max2_int min2_int max_two min_two max_three min_three max_four min_four   -- for this text's walks alone
set_option linter.unusedVariables false
set_option linter.unusedSimpArgs false
def careenref04_SameAll.l0 : Nat → List (S49) → List (S49) → Int → Option (Bool)
  | 0, _, _, _ => none
  | k + 1, x0, x1, x5 => if x5 < (x0.length : Int) then (if 0 ≤ x5 then (if x5 < (x1.length : Int) then (if ((rd_T49 x0 x5).f0) = ((rd_T49 x1 x5).f0) then ((careenref04_Same.f ((rd_T49 x0 x5).f1.f0) ((rd_T49 x0 x5).f1.f1) ((rd_T49 x0 x5).f1.f2) ((rd_T49 x0 x5).f1.f3) ((rd_T49 x0 x5).f1.f4) ((rd_T49 x0 x5).f1.f5) ((rd_T49 x0 x5).f1.f6) ((rd_T49 x0 x5).f1.f7) ((rd_T49 x0 x5).f1.f8) ((rd_T49 x0 x5).f1.f9) ((rd_T49 x0 x5).f1.f10) ((rd_T49 x1 x5).f1.f0) ((rd_T49 x1 x5).f1.f1) ((rd_T49 x1 x5).f1.f2) ((rd_T49 x1 x5).f1.f3) ((rd_T49 x1 x5).f1.f4) ((rd_T49 x1 x5).f1.f5) ((rd_T49 x1 x5).f1.f6) ((rd_T49 x1 x5).f1.f7) ((rd_T49 x1 x5).f1.f8) ((rd_T49 x1 x5).f1.f9) ((rd_T49 x1 x5).f1.f10)).bind fun t189 => (if t189 = true then (careenref04_SameAll.l0 k x0 x1 (wrap64 (x5 + 1))) else (some false))) else (some false)) else (none)) else (none)) else (some true)
def careenref04_SameAll.f (k : Nat) (l0 : List (S49)) (l1 : List (S49)) : Option (Bool) := if (l0.length : Int) = (l1.length : Int) then (careenref04_SameAll.l0 k l0 l1 0) else (some false)
def careenref04_SameAll.T6 : Bool × List (List Nat × List Nat) := (true, [([], []), ([], []), ([0, 1], [0, 1]), ([2], [2]), ([3], [3]), ([], []), ([], []), ([5, 6], [5, 6]), ([7], [7]), ([8], [8]), ([4, 9], [4, 9]), ([10], [10]), ([11], [11]), ([11], [11]), ([12, 13, 11], [11, 12, 13]), ([14, 11], [11, 14]), ([15, 11], [11, 15]), ([11], [11]), ([11], [11]), ([17, 18, 11], [11, 17, 18]), ([19, 11], [11, 19]), ([20, 11], [11, 20]), ([16, 21, 11, 11], [11, 16, 21]), ([22, 11], [11, 22]), ([11, 23], [11, 23])])
def careenref04_SameAll.B6 : List Nat := [0, 0, 3, 7, 15, 0, 0, 96, 224, 480, 1023, 2047, 4095, 4095, 16383, 32767, 65535, 4095, 4095, 397311, 921599, 1970175, 4194303, 8388607, 16777215]
theorem careenref04_SameAll.tab6 : rtab .any (opsOf Try.f22 6) = careenref04_SameAll.T6 := by kernel_rfl
theorem careenref04_SameAll.bits6 : waitsOk careenref04_SameAll.T6.2 careenref04_SameAll.B6 = true := by kernel_rfl
set_option maxHeartbeats 8000000 in
set_option maxRecDepth 100000 in
theorem careenref04_SameAll.calls (k : Nat) (A0 : Option Addr) (c0 : Nat) (l0 : List (S49)) (A1 : Option Addr) (c1 : Nat) (l1 : List (S49)) (r : Bool) (w : World) (hr0 : Kd.C k49 w A0 l0.length l0) (hc0 : l0.length ≤ c0) (hr1 : Kd.C k49 w A1 l1.length l1) (hc1 : l1.length ≤ c1) (h : careenref04_SameAll.f k l0 l1 = some r) :
    Calls Try.prog 22 #[.slice A0 l0.length c0, .slice A1 l1.length c1] w fun e w' => e = .returned (.bool r) ∧ Below w.heap.size w w' := by
  have hu25 := Try.underlying25
  have HR0 := Aside0.mk hr0
  have HC0 := Aside0.mk hc0
  clear hr0 hc0
  have HR1 := Aside0.mk hr1
  have HC1 := Aside0.mk hc1
  clear hr1 hc1
  have HB := Aside0.mk (Below.refl w.heap.size w)
  have H : (if (l0.length : Int) = (l1.length : Int) then (careenref04_SameAll.l0 k l0 l1 0) else (some false)) = some r := h
  clear h
  by_cases c3 : (l0.length : Int) = (l1.length : Int)
  · rw [if_pos c3] at H
    have c3b0 : ((l0.length : Int) == (l1.length : Int)) = true := beq_iff_eq.mpr c3
    have c3b1 : ((l0.length : Int) != (l1.length : Int)) = false := bne_eq_false_iff_eq.mpr c3
    have c3b2 : (l0.length == l1.length) = true := by first | simpa using c3 | (simp at c3 ⊢; omega)
    clear c3
    have H' := Aside0.mk H
    clear H
    go_enter Try.func22, Try.ntmps22
    go_wp2
    go_loopg [5] k (fun kq v5 w' => ∃ (x5_1 : Int), v5 = .int .i64 x5_1 ∧ Aside0 (careenref04_SameAll.l0 kq l0 l1 x5_1 = some r) ∧ Aside0 (kq ≤ k) ∧ Aside0 (Below w.heap.size w w'))
    case atStart => exact ⟨(0), (by first | rfl | (simp; done) | (simp [*]; done)), H', ⟨Nat.le_refl _⟩, ⟨by repeat (first | (with_reducible first | exact HB.out | apply below_alloc | apply pw_below_drewN | apply below_drew1) | exact HB.out)⟩⟩
    case round =>
      clear H'
      try clear c1
      try clear c2
      try clear p2
      try clear c3
      try clear c3b0
      try clear c3b1
      try clear c3b2
      obtain ⟨x5_1, rfl, HA, HK1, HB⟩ := hrel
      cases gk with
      | zero => exact nomatch (show none = some _ from HA.out)
      | succ k1 =>
        have H := HA.out
        clear HA
        simp only [careenref04_SameAll.l0] at H
        by_cases c4 : x5_1 < (l0.length : Int)
        · rw [if_pos c4] at H
          have c4b0 : decide (x5_1 < (l0.length : Int)) = true := decide_eq_true c4
          clear c4
          by_cases c5 : 0 ≤ x5_1
          · rw [if_pos c5] at H
            have c5b0 : decide (0 ≤ x5_1) = true := decide_eq_true c5
            clear c5
            by_cases c6 : x5_1 < (l1.length : Int)
            · rw [if_pos c6] at H
              have c6b0 : decide (x5_1 < (l1.length : Int)) = true := decide_eq_true c6
              clear c6
              by_cases c7 : ((rd_T49 l0 x5_1).f0) = ((rd_T49 l1 x5_1).f0)
              · rw [if_pos c7] at H
                have c7b0 : (((rd_T49 l0 x5_1).f0) == ((rd_T49 l1 x5_1).f0)) = true := beq_iff_eq.mpr c7
                have c7b1 : (((rd_T49 l0 x5_1).f0) != ((rd_T49 l1 x5_1).f0)) = false := bne_eq_false_iff_eq.mpr c7
                clear c7
                replace H := Option.bind_eq_some_iff.mp H
                obtain ⟨t189, A80, H⟩ := H
                replace H : (if t189 = true then (careenref04_SameAll.l0 k1 l0 l1 (wrap64 (x5_1 + 1))) else (some false)) = some r := H
                have A8 := Aside0.mk A80
                clear A80
                by_cases c9 : t189 = true
                · subst c9
                  have H1 : (careenref04_SameAll.l0 k1 l0 l1 (wrap64 (x5_1 + 1))) = some r := by rw [if_pos rfl] at H; exact H
                  clear H
                  have H := H1
                  clear H1
                  have H' := Aside0.mk H
                  clear H
                  try go_wp2
                  have n0_ := Aside0.mk (below_drew1 HB.out)
                  clear HB
                  have HB := n0_
                  clear n0_
                  have p185 : 0 ≤ (x5_1 : Int) := of_decide_eq_true (by first | (with_reducible assumption) | assumption)
                  have q185 : x5_1 < (l0.length : Int) := of_decide_eq_true (by first | (with_reducible assumption) | assumption)
                  obtain ⟨ad185, A185_10, c185_10, A185_11, c185_11, e185, hx185_0, hx185_1, hx185_2, hx185_3, hx185_4, hx185_5, hx185_6, hx185_7, hx185_8, hx185_9, hx185_10, hx185_11, hl185_10, hi185_10, hl185_11, hi185_11⟩ := at_T49 HR0.out x5_1 p185 q185
                  have hw185_11 := hx185_11
                  have hw185_10 := hx185_10
                  have hw185_9 := hx185_9
                  have hw185_8 := hx185_8
                  have hw185_7 := hx185_7
                  have hw185_6 := hx185_6
                  have hw185_5 := hx185_5
                  have hw185_4 := hx185_4
                  have hw185_3 := hx185_3
                  have hw185_2 := hx185_2
                  have hw185_1 := hx185_1
                  have hw185_0 := hx185_0
                  cases e185
                  replace hx185_0 := (HB.out.cell (World.block_lt_of_cell? w _ hx185_0)).trans hx185_0
                  replace hx185_1 := (HB.out.cell (World.block_lt_of_cell? w _ hx185_1)).trans hx185_1
                  replace hx185_2 := (HB.out.cell (World.block_lt_of_cell? w _ hx185_2)).trans hx185_2
                  replace hx185_3 := (HB.out.cell (World.block_lt_of_cell? w _ hx185_3)).trans hx185_3
                  replace hx185_4 := (HB.out.cell (World.block_lt_of_cell? w _ hx185_4)).trans hx185_4
                  replace hx185_5 := (HB.out.cell (World.block_lt_of_cell? w _ hx185_5)).trans hx185_5
                  replace hx185_6 := (HB.out.cell (World.block_lt_of_cell? w _ hx185_6)).trans hx185_6
                  replace hx185_7 := (HB.out.cell (World.block_lt_of_cell? w _ hx185_7)).trans hx185_7
                  replace hx185_8 := (HB.out.cell (World.block_lt_of_cell? w _ hx185_8)).trans hx185_8
                  replace hx185_9 := (HB.out.cell (World.block_lt_of_cell? w _ hx185_9)).trans hx185_9
                  replace hx185_10 := (HB.out.cell (World.block_lt_of_cell? w _ hx185_10)).trans hx185_10
                  replace hx185_11 := (HB.out.cell (World.block_lt_of_cell? w _ hx185_11)).trans hx185_11
                  have HR185_10 := Aside0.mk hi185_10
                  have HC185_10 := Aside0.mk hl185_10
                  clear hi185_10 hl185_10
                  have HR185_11 := Aside0.mk hi185_11
                  have HC185_11 := Aside0.mk hl185_11
                  clear hi185_11 hl185_11
                  replace p185 := eq_true p185
                  replace q185 := eq_true q185
                  have p186 : 0 ≤ (x5_1 : Int) := of_decide_eq_true (by first | (with_reducible assumption) | assumption)
                  have q186 : x5_1 < (l1.length : Int) := of_decide_eq_true (by first | (with_reducible assumption) | assumption)
                  obtain ⟨ad186, A186_10, c186_10, A186_11, c186_11, e186, hx186_0, hx186_1, hx186_2, hx186_3, hx186_4, hx186_5, hx186_6, hx186_7, hx186_8, hx186_9, hx186_10, hx186_11, hl186_10, hi186_10, hl186_11, hi186_11⟩ := at_T49 HR1.out x5_1 p186 q186
                  have hw186_11 := hx186_11
                  have hw186_10 := hx186_10
                  have hw186_9 := hx186_9
                  have hw186_8 := hx186_8
                  have hw186_7 := hx186_7
                  have hw186_6 := hx186_6
                  have hw186_5 := hx186_5
                  have hw186_4 := hx186_4
                  have hw186_3 := hx186_3
                  have hw186_2 := hx186_2
                  have hw186_1 := hx186_1
                  have hw186_0 := hx186_0
                  cases e186
                  replace hx186_0 := (HB.out.cell (World.block_lt_of_cell? w _ hx186_0)).trans hx186_0
                  replace hx186_1 := (HB.out.cell (World.block_lt_of_cell? w _ hx186_1)).trans hx186_1
                  replace hx186_2 := (HB.out.cell (World.block_lt_of_cell? w _ hx186_2)).trans hx186_2
                  replace hx186_3 := (HB.out.cell (World.block_lt_of_cell? w _ hx186_3)).trans hx186_3
                  replace hx186_4 := (HB.out.cell (World.block_lt_of_cell? w _ hx186_4)).trans hx186_4
                  replace hx186_5 := (HB.out.cell (World.block_lt_of_cell? w _ hx186_5)).trans hx186_5
                  replace hx186_6 := (HB.out.cell (World.block_lt_of_cell? w _ hx186_6)).trans hx186_6
                  replace hx186_7 := (HB.out.cell (World.block_lt_of_cell? w _ hx186_7)).trans hx186_7
                  replace hx186_8 := (HB.out.cell (World.block_lt_of_cell? w _ hx186_8)).trans hx186_8
                  replace hx186_9 := (HB.out.cell (World.block_lt_of_cell? w _ hx186_9)).trans hx186_9
                  replace hx186_10 := (HB.out.cell (World.block_lt_of_cell? w _ hx186_10)).trans hx186_10
                  replace hx186_11 := (HB.out.cell (World.block_lt_of_cell? w _ hx186_11)).trans hx186_11
                  have HR186_10 := Aside0.mk hi186_10
                  have HC186_10 := Aside0.mk hl186_10
                  clear hi186_10 hl186_10
                  have HR186_11 := Aside0.mk hi186_11
                  have HC186_11 := Aside0.mk hl186_11
                  clear hi186_11 hl186_11
                  replace p186 := eq_true p186
                  replace q186 := eq_true q186
                  have p187 : 0 ≤ (x5_1 : Int) := of_decide_eq_true (by first | (with_reducible assumption) | assumption)
                  have q187 : x5_1 < (l0.length : Int) := of_decide_eq_true (by first | (with_reducible assumption) | assumption)
                  obtain ⟨ad187, A187_10, c187_10, A187_11, c187_11, e187, hx187_0, hx187_1, hx187_2, hx187_3, hx187_4, hx187_5, hx187_6, hx187_7, hx187_8, hx187_9, hx187_10, hx187_11, hl187_10, hi187_10, hl187_11, hi187_11⟩ := at_T49 HR0.out x5_1 p187 q187
                  have hw187_11 := hx187_11
                  have hw187_10 := hx187_10
                  have hw187_9 := hx187_9
                  have hw187_8 := hx187_8
                  have hw187_7 := hx187_7
                  have hw187_6 := hx187_6
                  have hw187_5 := hx187_5
                  have hw187_4 := hx187_4
                  have hw187_3 := hx187_3
                  have hw187_2 := hx187_2
                  have hw187_1 := hx187_1
                  have hw187_0 := hx187_0
                  obtain rfl : ad185 = ad187 := (by injection e187)
                  replace hx187_0 := (HB.out.cell (World.block_lt_of_cell? w _ hx187_0)).trans hx187_0
                  replace hx187_1 := (HB.out.cell (World.block_lt_of_cell? w _ hx187_1)).trans hx187_1
                  replace hx187_2 := (HB.out.cell (World.block_lt_of_cell? w _ hx187_2)).trans hx187_2
                  replace hx187_3 := (HB.out.cell (World.block_lt_of_cell? w _ hx187_3)).trans hx187_3
                  replace hx187_4 := (HB.out.cell (World.block_lt_of_cell? w _ hx187_4)).trans hx187_4
                  replace hx187_5 := (HB.out.cell (World.block_lt_of_cell? w _ hx187_5)).trans hx187_5
                  replace hx187_6 := (HB.out.cell (World.block_lt_of_cell? w _ hx187_6)).trans hx187_6
                  replace hx187_7 := (HB.out.cell (World.block_lt_of_cell? w _ hx187_7)).trans hx187_7
                  replace hx187_8 := (HB.out.cell (World.block_lt_of_cell? w _ hx187_8)).trans hx187_8
                  replace hx187_9 := (HB.out.cell (World.block_lt_of_cell? w _ hx187_9)).trans hx187_9
                  replace hx187_10 := (HB.out.cell (World.block_lt_of_cell? w _ hx187_10)).trans hx187_10
                  replace hx187_11 := (HB.out.cell (World.block_lt_of_cell? w _ hx187_11)).trans hx187_11
                  have HR187_10 := Aside0.mk hi187_10
                  have HC187_10 := Aside0.mk hl187_10
                  clear hi187_10 hl187_10
                  have HR187_11 := Aside0.mk hi187_11
                  have HC187_11 := Aside0.mk hl187_11
                  clear hi187_11 hl187_11
                  replace p187 := eq_true p187
                  replace q187 := eq_true q187
                  have ea_ := Option.some.inj (hx185_10.symm.trans hx187_10)
                  injection ea_ with ea_ en_ ec_
                  subst ea_
                  subst ec_
                  clear en_
                  have ea_ := Option.some.inj (hx185_11.symm.trans hx187_11)
                  injection ea_ with ea_ en_ ec_
                  subst ea_
                  subst ec_
                  clear en_
                  have p188 : 0 ≤ (x5_1 : Int) := of_decide_eq_true (by first | (with_reducible assumption) | assumption)
                  have q188 : x5_1 < (l1.length : Int) := of_decide_eq_true (by first | (with_reducible assumption) | assumption)
                  obtain ⟨ad188, A188_10, c188_10, A188_11, c188_11, e188, hx188_0, hx188_1, hx188_2, hx188_3, hx188_4, hx188_5, hx188_6, hx188_7, hx188_8, hx188_9, hx188_10, hx188_11, hl188_10, hi188_10, hl188_11, hi188_11⟩ := at_T49 HR1.out x5_1 p188 q188
                  have hw188_11 := hx188_11
                  have hw188_10 := hx188_10
                  have hw188_9 := hx188_9
                  have hw188_8 := hx188_8
                  have hw188_7 := hx188_7
                  have hw188_6 := hx188_6
                  have hw188_5 := hx188_5
                  have hw188_4 := hx188_4
                  have hw188_3 := hx188_3
                  have hw188_2 := hx188_2
                  have hw188_1 := hx188_1
                  have hw188_0 := hx188_0
                  obtain rfl : ad186 = ad188 := (by injection e188)
                  replace hx188_0 := (HB.out.cell (World.block_lt_of_cell? w _ hx188_0)).trans hx188_0
                  replace hx188_1 := (HB.out.cell (World.block_lt_of_cell? w _ hx188_1)).trans hx188_1
                  replace hx188_2 := (HB.out.cell (World.block_lt_of_cell? w _ hx188_2)).trans hx188_2
                  replace hx188_3 := (HB.out.cell (World.block_lt_of_cell? w _ hx188_3)).trans hx188_3
                  replace hx188_4 := (HB.out.cell (World.block_lt_of_cell? w _ hx188_4)).trans hx188_4
                  replace hx188_5 := (HB.out.cell (World.block_lt_of_cell? w _ hx188_5)).trans hx188_5
                  replace hx188_6 := (HB.out.cell (World.block_lt_of_cell? w _ hx188_6)).trans hx188_6
                  replace hx188_7 := (HB.out.cell (World.block_lt_of_cell? w _ hx188_7)).trans hx188_7
                  replace hx188_8 := (HB.out.cell (World.block_lt_of_cell? w _ hx188_8)).trans hx188_8
                  replace hx188_9 := (HB.out.cell (World.block_lt_of_cell? w _ hx188_9)).trans hx188_9
                  replace hx188_10 := (HB.out.cell (World.block_lt_of_cell? w _ hx188_10)).trans hx188_10
                  replace hx188_11 := (HB.out.cell (World.block_lt_of_cell? w _ hx188_11)).trans hx188_11
                  have HR188_10 := Aside0.mk hi188_10
                  have HC188_10 := Aside0.mk hl188_10
                  clear hi188_10 hl188_10
                  have HR188_11 := Aside0.mk hi188_11
                  have HC188_11 := Aside0.mk hl188_11
                  clear hi188_11 hl188_11
                  replace p188 := eq_true p188
                  replace q188 := eq_true q188
                  have ea_ := Option.some.inj (hx186_10.symm.trans hx188_10)
                  injection ea_ with ea_ en_ ec_
                  subst ea_
                  subst ec_
                  clear en_
                  have ea_ := Option.some.inj (hx186_11.symm.trans hx188_11)
                  injection ea_ with ea_ en_ ec_
                  subst ea_
                  subst ec_
                  clear en_
                  refine start_ (n := 25) (S := fun w' => w'.cell? (ad185.add ((x5_1).toNat * 12)) = some (.int .i64 ((rd_T49 l0 x5_1).f0)) ∧ w'.cell? ⟨(ad185.add ((x5_1).toNat * 12)).block, (ad185.add ((x5_1).toNat * 12)).off + 1, none⟩ = some (.int .i64 ((rd_T49 l0 x5_1).f1.f0)) ∧ w'.cell? ⟨(ad185.add ((x5_1).toNat * 12)).block, (ad185.add ((x5_1).toNat * 12)).off + 2, none⟩ = some (.int .i64 ((rd_T49 l0 x5_1).f1.f1)) ∧ w'.cell? ⟨(ad185.add ((x5_1).toNat * 12)).block, (ad185.add ((x5_1).toNat * 12)).off + 3, none⟩ = some (.int .i64 ((rd_T49 l0 x5_1).f1.f2)) ∧ w'.cell? ⟨(ad185.add ((x5_1).toNat * 12)).block, (ad185.add ((x5_1).toNat * 12)).off + 4, none⟩ = some (.int .i64 ((rd_T49 l0 x5_1).f1.f3)) ∧ w'.cell? ⟨(ad185.add ((x5_1).toNat * 12)).block, (ad185.add ((x5_1).toNat * 12)).off + 5, none⟩ = some (.int .i64 ((rd_T49 l0 x5_1).f1.f4)) ∧ w'.cell? ⟨(ad185.add ((x5_1).toNat * 12)).block, (ad185.add ((x5_1).toNat * 12)).off + 6, none⟩ = some (.int .i64 ((rd_T49 l0 x5_1).f1.f5)) ∧ w'.cell? ⟨(ad185.add ((x5_1).toNat * 12)).block, (ad185.add ((x5_1).toNat * 12)).off + 7, none⟩ = some (.int .i64 ((rd_T49 l0 x5_1).f1.f6)) ∧ w'.cell? ⟨(ad185.add ((x5_1).toNat * 12)).block, (ad185.add ((x5_1).toNat * 12)).off + 8, none⟩ = some (.string ((rd_T49 l0 x5_1).f1.f7)) ∧ w'.cell? ⟨(ad185.add ((x5_1).toNat * 12)).block, (ad185.add ((x5_1).toNat * 12)).off + 9, none⟩ = some (.string ((rd_T49 l0 x5_1).f1.f8)) ∧ w'.cell? ⟨(ad185.add ((x5_1).toNat * 12)).block, (ad185.add ((x5_1).toNat * 12)).off + 10, none⟩ = some (.slice A185_10 ((rd_T49 l0 x5_1).f1.f9).length c185_10) ∧ w'.cell? ⟨(ad185.add ((x5_1).toNat * 12)).block, (ad185.add ((x5_1).toNat * 12)).off + 11, none⟩ = some (.slice A185_11 ((rd_T49 l0 x5_1).f1.f10).length c185_11) ∧ w'.cell? (ad186.add ((x5_1).toNat * 12)) = some (.int .i64 ((rd_T49 l1 x5_1).f0)) ∧ w'.cell? ⟨(ad186.add ((x5_1).toNat * 12)).block, (ad186.add ((x5_1).toNat * 12)).off + 1, none⟩ = some (.int .i64 ((rd_T49 l1 x5_1).f1.f0)) ∧ w'.cell? ⟨(ad186.add ((x5_1).toNat * 12)).block, (ad186.add ((x5_1).toNat * 12)).off + 2, none⟩ = some (.int .i64 ((rd_T49 l1 x5_1).f1.f1)) ∧ w'.cell? ⟨(ad186.add ((x5_1).toNat * 12)).block, (ad186.add ((x5_1).toNat * 12)).off + 3, none⟩ = some (.int .i64 ((rd_T49 l1 x5_1).f1.f2)) ∧ w'.cell? ⟨(ad186.add ((x5_1).toNat * 12)).block, (ad186.add ((x5_1).toNat * 12)).off + 4, none⟩ = some (.int .i64 ((rd_T49 l1 x5_1).f1.f3)) ∧ w'.cell? ⟨(ad186.add ((x5_1).toNat * 12)).block, (ad186.add ((x5_1).toNat * 12)).off + 5, none⟩ = some (.int .i64 ((rd_T49 l1 x5_1).f1.f4)) ∧ w'.cell? ⟨(ad186.add ((x5_1).toNat * 12)).block, (ad186.add ((x5_1).toNat * 12)).off + 6, none⟩ = some (.int .i64 ((rd_T49 l1 x5_1).f1.f5)) ∧ w'.cell? ⟨(ad186.add ((x5_1).toNat * 12)).block, (ad186.add ((x5_1).toNat * 12)).off + 7, none⟩ = some (.int .i64 ((rd_T49 l1 x5_1).f1.f6)) ∧ w'.cell? ⟨(ad186.add ((x5_1).toNat * 12)).block, (ad186.add ((x5_1).toNat * 12)).off + 8, none⟩ = some (.string ((rd_T49 l1 x5_1).f1.f7)) ∧ w'.cell? ⟨(ad186.add ((x5_1).toNat * 12)).block, (ad186.add ((x5_1).toNat * 12)).off + 9, none⟩ = some (.string ((rd_T49 l1 x5_1).f1.f8)) ∧ w'.cell? ⟨(ad186.add ((x5_1).toNat * 12)).block, (ad186.add ((x5_1).toNat * 12)).off + 10, none⟩ = some (.slice A186_10 ((rd_T49 l1 x5_1).f1.f9).length c186_10) ∧ w'.cell? ⟨(ad186.add ((x5_1).toNat * 12)).block, (ad186.add ((x5_1).toNat * 12)).off + 11, none⟩ = some (.slice A186_11 ((rd_T49 l1 x5_1).f1.f10).length c186_11) ∧ w'.cell? (ad185.add ((x5_1).toNat * 12)) = some (.int .i64 ((rd_T49 l0 x5_1).f0)) ∧ w'.cell? ⟨(ad185.add ((x5_1).toNat * 12)).block, (ad185.add ((x5_1).toNat * 12)).off + 1, none⟩ = some (.int .i64 ((rd_T49 l0 x5_1).f1.f0)) ∧ w'.cell? ⟨(ad185.add ((x5_1).toNat * 12)).block, (ad185.add ((x5_1).toNat * 12)).off + 2, none⟩ = some (.int .i64 ((rd_T49 l0 x5_1).f1.f1)) ∧ w'.cell? ⟨(ad185.add ((x5_1).toNat * 12)).block, (ad185.add ((x5_1).toNat * 12)).off + 3, none⟩ = some (.int .i64 ((rd_T49 l0 x5_1).f1.f2)) ∧ w'.cell? ⟨(ad185.add ((x5_1).toNat * 12)).block, (ad185.add ((x5_1).toNat * 12)).off + 4, none⟩ = some (.int .i64 ((rd_T49 l0 x5_1).f1.f3)) ∧ w'.cell? ⟨(ad185.add ((x5_1).toNat * 12)).block, (ad185.add ((x5_1).toNat * 12)).off + 5, none⟩ = some (.int .i64 ((rd_T49 l0 x5_1).f1.f4)) ∧ w'.cell? ⟨(ad185.add ((x5_1).toNat * 12)).block, (ad185.add ((x5_1).toNat * 12)).off + 6, none⟩ = some (.int .i64 ((rd_T49 l0 x5_1).f1.f5)) ∧ w'.cell? ⟨(ad185.add ((x5_1).toNat * 12)).block, (ad185.add ((x5_1).toNat * 12)).off + 7, none⟩ = some (.int .i64 ((rd_T49 l0 x5_1).f1.f6)) ∧ w'.cell? ⟨(ad185.add ((x5_1).toNat * 12)).block, (ad185.add ((x5_1).toNat * 12)).off + 8, none⟩ = some (.string ((rd_T49 l0 x5_1).f1.f7)) ∧ w'.cell? ⟨(ad185.add ((x5_1).toNat * 12)).block, (ad185.add ((x5_1).toNat * 12)).off + 9, none⟩ = some (.string ((rd_T49 l0 x5_1).f1.f8)) ∧ w'.cell? ⟨(ad185.add ((x5_1).toNat * 12)).block, (ad185.add ((x5_1).toNat * 12)).off + 10, none⟩ = some (.slice A185_10 ((rd_T49 l0 x5_1).f1.f9).length c185_10) ∧ w'.cell? ⟨(ad185.add ((x5_1).toNat * 12)).block, (ad185.add ((x5_1).toNat * 12)).off + 11, none⟩ = some (.slice A185_11 ((rd_T49 l0 x5_1).f1.f10).length c185_11) ∧ w'.cell? (ad186.add ((x5_1).toNat * 12)) = some (.int .i64 ((rd_T49 l1 x5_1).f0)) ∧ w'.cell? ⟨(ad186.add ((x5_1).toNat * 12)).block, (ad186.add ((x5_1).toNat * 12)).off + 1, none⟩ = some (.int .i64 ((rd_T49 l1 x5_1).f1.f0)) ∧ w'.cell? ⟨(ad186.add ((x5_1).toNat * 12)).block, (ad186.add ((x5_1).toNat * 12)).off + 2, none⟩ = some (.int .i64 ((rd_T49 l1 x5_1).f1.f1)) ∧ w'.cell? ⟨(ad186.add ((x5_1).toNat * 12)).block, (ad186.add ((x5_1).toNat * 12)).off + 3, none⟩ = some (.int .i64 ((rd_T49 l1 x5_1).f1.f2)) ∧ w'.cell? ⟨(ad186.add ((x5_1).toNat * 12)).block, (ad186.add ((x5_1).toNat * 12)).off + 4, none⟩ = some (.int .i64 ((rd_T49 l1 x5_1).f1.f3)) ∧ w'.cell? ⟨(ad186.add ((x5_1).toNat * 12)).block, (ad186.add ((x5_1).toNat * 12)).off + 5, none⟩ = some (.int .i64 ((rd_T49 l1 x5_1).f1.f4)) ∧ w'.cell? ⟨(ad186.add ((x5_1).toNat * 12)).block, (ad186.add ((x5_1).toNat * 12)).off + 6, none⟩ = some (.int .i64 ((rd_T49 l1 x5_1).f1.f5)) ∧ w'.cell? ⟨(ad186.add ((x5_1).toNat * 12)).block, (ad186.add ((x5_1).toNat * 12)).off + 7, none⟩ = some (.int .i64 ((rd_T49 l1 x5_1).f1.f6)) ∧ w'.cell? ⟨(ad186.add ((x5_1).toNat * 12)).block, (ad186.add ((x5_1).toNat * 12)).off + 8, none⟩ = some (.string ((rd_T49 l1 x5_1).f1.f7)) ∧ w'.cell? ⟨(ad186.add ((x5_1).toNat * 12)).block, (ad186.add ((x5_1).toNat * 12)).off + 9, none⟩ = some (.string ((rd_T49 l1 x5_1).f1.f8)) ∧ w'.cell? ⟨(ad186.add ((x5_1).toNat * 12)).block, (ad186.add ((x5_1).toNat * 12)).off + 10, none⟩ = some (.slice A186_10 ((rd_T49 l1 x5_1).f1.f9).length c186_10) ∧ w'.cell? ⟨(ad186.add ((x5_1).toNat * 12)).block, (ad186.add ((x5_1).toNat * 12)).off + 11, none⟩ = some (.slice A186_11 ((rd_T49 l1 x5_1).f1.f10).length c186_11)) (ds := []) #[false, false, false, false, false, false, false, false, false, false, false, false, false, false, false, false, false, false, false, false, false, false, false, false, false] (by kernel_rfl) rfl rfl ⟨((HB.out.cell (World.block_lt_of_cell? w _ hw185_0)).trans hw185_0), ((HB.out.cell (World.block_lt_of_cell? w _ hw185_1)).trans hw185_1), ((HB.out.cell (World.block_lt_of_cell? w _ hw185_2)).trans hw185_2), ((HB.out.cell (World.block_lt_of_cell? w _ hw185_3)).trans hw185_3), ((HB.out.cell (World.block_lt_of_cell? w _ hw185_4)).trans hw185_4), ((HB.out.cell (World.block_lt_of_cell? w _ hw185_5)).trans hw185_5), ((HB.out.cell (World.block_lt_of_cell? w _ hw185_6)).trans hw185_6), ((HB.out.cell (World.block_lt_of_cell? w _ hw185_7)).trans hw185_7), ((HB.out.cell (World.block_lt_of_cell? w _ hw185_8)).trans hw185_8), ((HB.out.cell (World.block_lt_of_cell? w _ hw185_9)).trans hw185_9), ((HB.out.cell (World.block_lt_of_cell? w _ hw185_10)).trans hw185_10), ((HB.out.cell (World.block_lt_of_cell? w _ hw185_11)).trans hw185_11), ((HB.out.cell (World.block_lt_of_cell? w _ hw186_0)).trans hw186_0), ((HB.out.cell (World.block_lt_of_cell? w _ hw186_1)).trans hw186_1), ((HB.out.cell (World.block_lt_of_cell? w _ hw186_2)).trans hw186_2), ((HB.out.cell (World.block_lt_of_cell? w _ hw186_3)).trans hw186_3), ((HB.out.cell (World.block_lt_of_cell? w _ hw186_4)).trans hw186_4), ((HB.out.cell (World.block_lt_of_cell? w _ hw186_5)).trans hw186_5), ((HB.out.cell (World.block_lt_of_cell? w _ hw186_6)).trans hw186_6), ((HB.out.cell (World.block_lt_of_cell? w _ hw186_7)).trans hw186_7), ((HB.out.cell (World.block_lt_of_cell? w _ hw186_8)).trans hw186_8), ((HB.out.cell (World.block_lt_of_cell? w _ hw186_9)).trans hw186_9), ((HB.out.cell (World.block_lt_of_cell? w _ hw186_10)).trans hw186_10), ((HB.out.cell (World.block_lt_of_cell? w _ hw186_11)).trans hw186_11), ((HB.out.cell (World.block_lt_of_cell? w _ hw187_0)).trans hw187_0), ((HB.out.cell (World.block_lt_of_cell? w _ hw187_1)).trans hw187_1), ((HB.out.cell (World.block_lt_of_cell? w _ hw187_2)).trans hw187_2), ((HB.out.cell (World.block_lt_of_cell? w _ hw187_3)).trans hw187_3), ((HB.out.cell (World.block_lt_of_cell? w _ hw187_4)).trans hw187_4), ((HB.out.cell (World.block_lt_of_cell? w _ hw187_5)).trans hw187_5), ((HB.out.cell (World.block_lt_of_cell? w _ hw187_6)).trans hw187_6), ((HB.out.cell (World.block_lt_of_cell? w _ hw187_7)).trans hw187_7), ((HB.out.cell (World.block_lt_of_cell? w _ hw187_8)).trans hw187_8), ((HB.out.cell (World.block_lt_of_cell? w _ hw187_9)).trans hw187_9), ((HB.out.cell (World.block_lt_of_cell? w _ hw187_10)).trans hw187_10), ((HB.out.cell (World.block_lt_of_cell? w _ hw187_11)).trans hw187_11), ((HB.out.cell (World.block_lt_of_cell? w _ hw188_0)).trans hw188_0), ((HB.out.cell (World.block_lt_of_cell? w _ hw188_1)).trans hw188_1), ((HB.out.cell (World.block_lt_of_cell? w _ hw188_2)).trans hw188_2), ((HB.out.cell (World.block_lt_of_cell? w _ hw188_3)).trans hw188_3), ((HB.out.cell (World.block_lt_of_cell? w _ hw188_4)).trans hw188_4), ((HB.out.cell (World.block_lt_of_cell? w _ hw188_5)).trans hw188_5), ((HB.out.cell (World.block_lt_of_cell? w _ hw188_6)).trans hw188_6), ((HB.out.cell (World.block_lt_of_cell? w _ hw188_7)).trans hw188_7), ((HB.out.cell (World.block_lt_of_cell? w _ hw188_8)).trans hw188_8), ((HB.out.cell (World.block_lt_of_cell? w _ hw188_9)).trans hw188_9), ((HB.out.cell (World.block_lt_of_cell? w _ hw188_10)).trans hw188_10), ((HB.out.cell (World.block_lt_of_cell? w _ hw188_11)).trans hw188_11)⟩ (fun hHeld => ?_); refine with_tabW careenref04_SameAll.tab6 careenref04_SameAll.bits6 (fun HT_ HW_ => ?_)
                  generalize wr.drew = w10 at HB HR185_10 HR185_11 HR186_10 HR186_11 HR187_10 HR187_11 HR188_10 HR188_11 hx185_0 hx185_1 hx185_10 hx185_11 hx185_2 hx185_3 hx185_4 hx185_5 hx185_6 hx185_7 hx185_8 hx185_9 hx186_0 hx186_1 hx186_10 hx186_11 hx186_2 hx186_3 hx186_4 hx186_5 hx186_6 hx186_7 hx186_8 hx186_9 hx187_0 hx187_1 hx187_10 hx187_11 hx187_2 hx187_3 hx187_4 hx187_5 hx187_6 hx187_7 hx187_8 hx187_9 hx188_0 hx188_1 hx188_10 hx188_11 hx188_2 hx188_3 hx188_4 hx188_5 hx188_6 hx188_7 hx188_8 hx188_9 hHeld ⊢
                  refine pure_ (i := 0) (N := some 17) (v := ?_) (a' := ?_) #[true, false, false, false, false, false, false, false, false, false, false, false, false, false, false, false, false, false, false, false, false, false, false, false, false] rfl rfl (any_of HT_.out (by kernel_rfl)) (fun _ _ _ h => h) (Or.inl ⟨by rfl, ?_⟩) ?_ ?_
                  rotate_left
                  · intro w'
                    go_simp
                    with_reducible rfl
                  rotate_left
                  · simp only [Act.put, List.setIfInBounds_toArray, List.set_cons_zero, List.set_cons_succ, i64_w, i32_w]
                    rfl
                  refine pure_ (i := 1) (N := some 18) (v := ?_) (a' := ?_) #[true, true, false, false, false, false, false, false, false, false, false, false, false, false, false, false, false, false, false, false, false, false, false, false, false] rfl rfl (any_of HT_.out (by kernel_rfl)) (fun _ _ _ h => h) (Or.inl ⟨by rfl, ?_⟩) ?_ ?_
                  rotate_left
                  · intro w'
                    go_simp
                    with_reducible rfl
                  rotate_left
                  · simp only [Act.put, List.setIfInBounds_toArray, List.set_cons_zero, List.set_cons_succ, i64_w, i32_w]
                    rfl
                  refine pure_ (i := 2) (N := some 19) (v := ?_) (a' := ?_) #[true, true, true, false, false, false, false, false, false, false, false, false, false, false, false, false, false, false, false, false, false, false, false, false, false] rfl rfl (any_of HT_.out (by kernel_rfl)) (fun _ _ _ h => h) (Or.inl ⟨by rfl, ?_⟩) ?_ ?_
                  rotate_left
                  · intro w'
                    go_simp
                    with_reducible rfl
                  rotate_left
                  · simp only [Act.put, List.setIfInBounds_toArray, List.set_cons_zero, List.set_cons_succ, i64_w, i32_w]
                    rfl
                  refine pure_ (i := 3) (N := some 20) (v := ?_) (a' := ?_) #[true, true, true, true, false, false, false, false, false, false, false, false, false, false, false, false, false, false, false, false, false, false, false, false, false] rfl rfl (any_of HT_.out (by kernel_rfl)) (fun _ _ _ h => h) (Or.inl ⟨by rfl, ?_⟩) ?_ ?_
                  rotate_left
                  · intro w'
                    go_simp
                    with_reducible rfl
                  rotate_left
                  · simp only [Act.put, List.setIfInBounds_toArray, List.set_cons_zero, List.set_cons_succ, i64_w, i32_w]
                    rfl
                  refine pure_ (i := 5) (N := some 22) (v := ?_) (a' := ?_) #[true, true, true, true, false, true, false, false, false, false, false, false, false, false, false, false, false, false, false, false, false, false, false, false, false] rfl rfl (any_of HT_.out (by kernel_rfl)) (fun _ _ _ h => h) (Or.inl ⟨by rfl, ?_⟩) ?_ ?_
                  rotate_left
                  · intro w'
                    go_simp
                    with_reducible rfl
                  rotate_left
                  · simp only [Act.put, List.setIfInBounds_toArray, List.set_cons_zero, List.set_cons_succ, i64_w, i32_w]
                    rfl
                  refine pure_ (i := 6) (N := some 23) (v := ?_) (a' := ?_) #[true, true, true, true, false, true, true, false, false, false, false, false, false, false, false, false, false, false, false, false, false, false, false, false, false] rfl rfl (any_of HT_.out (by kernel_rfl)) (fun _ _ _ h => h) (Or.inl ⟨by rfl, ?_⟩) ?_ ?_
                  rotate_left
                  · intro w'
                    go_simp
                    with_reducible rfl
                  rotate_left
                  · simp only [Act.put, List.setIfInBounds_toArray, List.set_cons_zero, List.set_cons_succ, i64_w, i32_w]
                    rfl
                  refine pure_ (i := 7) (N := some 24) (v := ?_) (a' := ?_) #[true, true, true, true, false, true, true, true, false, false, false, false, false, false, false, false, false, false, false, false, false, false, false, false, false] rfl rfl (any_of HT_.out (by kernel_rfl)) (fun _ _ _ h => h) (Or.inl ⟨by rfl, ?_⟩) ?_ ?_
                  rotate_left
                  · intro w'
                    go_simp
                    with_reducible rfl
                  rotate_left
                  · simp only [Act.put, List.setIfInBounds_toArray, List.set_cons_zero, List.set_cons_succ, i64_w, i32_w]
                    rfl
                  refine pure_ (i := 8) (N := some 25) (v := ?_) (a' := ?_) #[true, true, true, true, false, true, true, true, true, false, false, false, false, false, false, false, false, false, false, false, false, false, false, false, false] rfl rfl (any_of HT_.out (by kernel_rfl)) (fun _ _ _ h => h) (Or.inl ⟨by rfl, ?_⟩) ?_ ?_
                  rotate_left
                  · intro w'
                    go_simp
                    with_reducible rfl
                  rotate_left
                  · simp only [Act.put, List.setIfInBounds_toArray, List.set_cons_zero, List.set_cons_succ, i64_w, i32_w]
                    rfl
                  refine take_ (i := 4) (N := some 21) (v := ?_) (a' := ?_) #[true, true, true, true, true, true, true, true, true, false, false, false, false, false, false, false, false, false, false, false, false, false, false, false, false] rfl rfl (take_ofW HT_.out HW_.out (by kernel_rfl)) (fun _ _ _ h => h) (Or.inl ⟨by rfl, ?_⟩) hHeld ?_ ?_
                  rotate_left
                  · rintro w' ⟨s0, s1, s2, s3, s4, s5, s6, s7, s8, s9, s10, s11, s12, s13, s14, s15, s16, s17, s18, s19, s20, s21, s22, s23, s24, s25, s26, s27, s28, s29, s30, s31, s32, s33, s34, s35, s36, s37, s38, s39, s40, s41, s42, s43, s44, s45, s46, s47⟩
                    go_simp
                    with_reducible rfl
                  rotate_left
                  · simp only [Act.put, List.setIfInBounds_toArray, List.set_cons_zero, List.set_cons_succ, i64_w, i32_w]
                    rfl
                  refine take_ (i := 9) (N := some 26) (v := ?_) (a' := ?_) #[true, true, true, true, true, true, true, true, true, true, false, false, false, false, false, false, false, false, false, false, false, false, false, false, false] rfl rfl (take_ofW HT_.out HW_.out (by kernel_rfl)) (fun _ _ _ h => h) (Or.inl ⟨by rfl, ?_⟩) hHeld ?_ ?_
                  rotate_left
                  · rintro w' ⟨s0, s1, s2, s3, s4, s5, s6, s7, s8, s9, s10, s11, s12, s13, s14, s15, s16, s17, s18, s19, s20, s21, s22, s23, s24, s25, s26, s27, s28, s29, s30, s31, s32, s33, s34, s35, s36, s37, s38, s39, s40, s41, s42, s43, s44, s45, s46, s47⟩
                    go_simp
                    with_reducible rfl
                  rotate_left
                  · simp only [Act.put, List.setIfInBounds_toArray, List.set_cons_zero, List.set_cons_succ, i64_w, i32_w]
                    rfl
                  refine pure_ (i := 10) (N := some 27) (v := ?_) (a' := ?_) #[true, true, true, true, true, true, true, true, true, true, true, false, false, false, false, false, false, false, false, false, false, false, false, false, false] rfl rfl (any_of HT_.out (by kernel_rfl)) (fun _ _ _ h => h) (Or.inl ⟨by rfl, ?_⟩) ?_ ?_
                  rotate_left
                  · intro w'
                    go_simp
                    with_reducible rfl
                  rotate_left
                  · simp only [Act.put, List.setIfInBounds_toArray, List.set_cons_zero, List.set_cons_succ, i64_w, i32_w]
                    rfl
                  refine pure_ (i := 11) (N := some 28) (v := ?_) (a' := ?_) #[true, true, true, true, true, true, true, true, true, true, true, true, false, false, false, false, false, false, false, false, false, false, false, false, false] rfl rfl (any_of HT_.out (by kernel_rfl)) (fun _ _ _ h => h) (Or.inl ⟨by rfl, ?_⟩) ?_ ?_
                  rotate_left
                  · intro w'
                    go_simp
                    with_reducible rfl
                  rotate_left
                  · simp only [Act.put, List.setIfInBounds_toArray, List.set_cons_zero, List.set_cons_succ, i64_w, i32_w]
                    rfl
                  refine pure_ (i := 12) (N := some 29) (v := ?_) (a' := ?_) #[true, true, true, true, true, true, true, true, true, true, true, true, true, false, false, false, false, false, false, false, false, false, false, false, false] rfl rfl (any_of HT_.out (by kernel_rfl)) (fun _ _ _ h => h) (Or.inl ⟨by rfl, ?_⟩) ?_ ?_
                  rotate_left
                  · intro w'
                    go_simp
                    with_reducible rfl
                  rotate_left
                  · simp only [Act.put, List.setIfInBounds_toArray, List.set_cons_zero, List.set_cons_succ, i64_w, i32_w]
                    rfl
                  refine pure_ (i := 13) (N := some 30) (v := ?_) (a' := ?_) #[true, true, true, true, true, true, true, true, true, true, true, true, true, true, false, false, false, false, false, false, false, false, false, false, false] rfl rfl (any_of HT_.out (by kernel_rfl)) (fun _ _ _ h => h) (Or.inl ⟨by rfl, ?_⟩) ?_ ?_
                  rotate_left
                  · intro w'
                    go_simp
                    with_reducible rfl
                  rotate_left
                  · simp only [Act.put, List.setIfInBounds_toArray, List.set_cons_zero, List.set_cons_succ, i64_w, i32_w]
                    rfl
                  refine pure_ (i := 14) (N := some 31) (v := ?_) (a' := ?_) #[true, true, true, true, true, true, true, true, true, true, true, true, true, true, true, false, false, false, false, false, false, false, false, false, false] rfl rfl (any_of HT_.out (by kernel_rfl)) (fun _ _ _ h => h) (Or.inl ⟨by rfl, ?_⟩) ?_ ?_
                  rotate_left
                  · intro w'
                    go_simp
                    with_reducible rfl
                  rotate_left
                  · simp only [Act.put, List.setIfInBounds_toArray, List.set_cons_zero, List.set_cons_succ, i64_w, i32_w]
                    rfl
                  refine pure_ (i := 15) (N := some 32) (v := ?_) (a' := ?_) #[true, true, true, true, true, true, true, true, true, true, true, true, true, true, true, true, false, false, false, false, false, false, false, false, false] rfl rfl (any_of HT_.out (by kernel_rfl)) (fun _ _ _ h => h) (Or.inl ⟨by rfl, ?_⟩) ?_ ?_
                  rotate_left
                  · intro w'
                    go_simp
                    with_reducible rfl
                  rotate_left
                  · simp only [Act.put, List.setIfInBounds_toArray, List.set_cons_zero, List.set_cons_succ, i64_w, i32_w]
                    rfl
                  refine pure_ (i := 17) (N := some 34) (v := ?_) (a' := ?_) #[true, true, true, true, true, true, true, true, true, true, true, true, true, true, true, true, false, true, false, false, false, false, false, false, false] rfl rfl (any_of HT_.out (by kernel_rfl)) (fun _ _ _ h => h) (Or.inl ⟨by rfl, ?_⟩) ?_ ?_
                  rotate_left
                  · intro w'
                    go_simp
                    with_reducible rfl
                  rotate_left
                  · simp only [Act.put, List.setIfInBounds_toArray, List.set_cons_zero, List.set_cons_succ, i64_w, i32_w]
                    rfl
                  refine pure_ (i := 18) (N := some 35) (v := ?_) (a' := ?_) #[true, true, true, true, true, true, true, true, true, true, true, true, true, true, true, true, false, true, true, false, false, false, false, false, false] rfl rfl (any_of HT_.out (by kernel_rfl)) (fun _ _ _ h => h) (Or.inl ⟨by rfl, ?_⟩) ?_ ?_
                  rotate_left
                  · intro w'
                    go_simp
                    with_reducible rfl
                  rotate_left
                  · simp only [Act.put, List.setIfInBounds_toArray, List.set_cons_zero, List.set_cons_succ, i64_w, i32_w]
                    rfl
                  refine pure_ (i := 19) (N := some 36) (v := ?_) (a' := ?_) #[true, true, true, true, true, true, true, true, true, true, true, true, true, true, true, true, false, true, true, true, false, false, false, false, false] rfl rfl (any_of HT_.out (by kernel_rfl)) (fun _ _ _ h => h) (Or.inl ⟨by rfl, ?_⟩) ?_ ?_
                  rotate_left
                  · intro w'
                    go_simp
                    with_reducible rfl
                  rotate_left
                  · simp only [Act.put, List.setIfInBounds_toArray, List.set_cons_zero, List.set_cons_succ, i64_w, i32_w]
                    rfl
                  refine pure_ (i := 20) (N := some 37) (v := ?_) (a' := ?_) #[true, true, true, true, true, true, true, true, true, true, true, true, true, true, true, true, false, true, true, true, true, false, false, false, false] rfl rfl (any_of HT_.out (by kernel_rfl)) (fun _ _ _ h => h) (Or.inl ⟨by rfl, ?_⟩) ?_ ?_
                  rotate_left
                  · intro w'
                    go_simp
                    with_reducible rfl
                  rotate_left
                  · simp only [Act.put, List.setIfInBounds_toArray, List.set_cons_zero, List.set_cons_succ, i64_w, i32_w]
                    rfl
                  refine take_ (i := 16) (N := some 33) (v := ?_) (a' := ?_) #[true, true, true, true, true, true, true, true, true, true, true, true, true, true, true, true, true, true, true, true, true, false, false, false, false] rfl rfl (take_ofW HT_.out HW_.out (by kernel_rfl)) (fun _ _ _ h => h) (Or.inl ⟨by rfl, ?_⟩) hHeld ?_ ?_
                  rotate_left
                  · rintro w' ⟨s0, s1, s2, s3, s4, s5, s6, s7, s8, s9, s10, s11, s12, s13, s14, s15, s16, s17, s18, s19, s20, s21, s22, s23, s24, s25, s26, s27, s28, s29, s30, s31, s32, s33, s34, s35, s36, s37, s38, s39, s40, s41, s42, s43, s44, s45, s46, s47⟩
                    go_simp
                    with_reducible rfl
                  rotate_left
                  · simp only [Act.put, List.setIfInBounds_toArray, List.set_cons_zero, List.set_cons_succ, i64_w, i32_w]
                    rfl
                  refine take_ (i := 21) (N := some 38) (v := ?_) (a' := ?_) #[true, true, true, true, true, true, true, true, true, true, true, true, true, true, true, true, true, true, true, true, true, true, false, false, false] rfl rfl (take_ofW HT_.out HW_.out (by kernel_rfl)) (fun _ _ _ h => h) (Or.inl ⟨by rfl, ?_⟩) hHeld ?_ ?_
                  rotate_left
                  · rintro w' ⟨s0, s1, s2, s3, s4, s5, s6, s7, s8, s9, s10, s11, s12, s13, s14, s15, s16, s17, s18, s19, s20, s21, s22, s23, s24, s25, s26, s27, s28, s29, s30, s31, s32, s33, s34, s35, s36, s37, s38, s39, s40, s41, s42, s43, s44, s45, s46, s47⟩
                    go_simp
                    with_reducible rfl
                  rotate_left
                  · simp only [Act.put, List.setIfInBounds_toArray, List.set_cons_zero, List.set_cons_succ, i64_w, i32_w]
                    rfl
                  refine one_ (i := 22) (N := some 39) #[true, true, true, true, true, true, true, true, true, true, true, true, true, true, true, true, true, true, true, true, true, true, true, false, false] rfl rfl (one_of HT_.out (by kernel_rfl)) (by decide) (fun K hK => ?_)
                  refine goes_ Try.func17 (by kernel_rfl) rfl #[.agg #[.int .i64 ((rd_T49 l0 x5_1).f1.f0), .int .i64 ((rd_T49 l0 x5_1).f1.f1), .int .i64 ((rd_T49 l0 x5_1).f1.f2), .int .i64 ((rd_T49 l0 x5_1).f1.f3), .int .i64 ((rd_T49 l0 x5_1).f1.f4), .int .i64 ((rd_T49 l0 x5_1).f1.f5), .int .i64 ((rd_T49 l0 x5_1).f1.f6), .string ((rd_T49 l0 x5_1).f1.f7), .string ((rd_T49 l0 x5_1).f1.f8), .slice A185_10 ((rd_T49 l0 x5_1).f1.f9).length c185_10, .slice A185_11 ((rd_T49 l0 x5_1).f1.f10).length c185_11], .agg #[.int .i64 ((rd_T49 l1 x5_1).f1.f0), .int .i64 ((rd_T49 l1 x5_1).f1.f1), .int .i64 ((rd_T49 l1 x5_1).f1.f2), .int .i64 ((rd_T49 l1 x5_1).f1.f3), .int .i64 ((rd_T49 l1 x5_1).f1.f4), .int .i64 ((rd_T49 l1 x5_1).f1.f5), .int .i64 ((rd_T49 l1 x5_1).f1.f6), .string ((rd_T49 l1 x5_1).f1.f7), .string ((rd_T49 l1 x5_1).f1.f8), .slice A186_10 ((rd_T49 l1 x5_1).f1.f9).length c186_10, .slice A186_11 ((rd_T49 l1 x5_1).f1.f10).length c186_11]] (by rfl) rfl rfl (by (try simp only [List.map_toArray, List.map_cons, List.map_nil]); first | done | rfl | (simp only [List.length_drop, List.length_take]; rfl)) ?_
                  with_reducible refine (careenref04_Same.calls ((rd_T49 l0 x5_1).f1.f0) ((rd_T49 l0 x5_1).f1.f1) ((rd_T49 l0 x5_1).f1.f2) ((rd_T49 l0 x5_1).f1.f3) ((rd_T49 l0 x5_1).f1.f4) ((rd_T49 l0 x5_1).f1.f5) ((rd_T49 l0 x5_1).f1.f6) ((rd_T49 l0 x5_1).f1.f7) ((rd_T49 l0 x5_1).f1.f8) _ _ ((rd_T49 l0 x5_1).f1.f9) _ _ ((rd_T49 l0 x5_1).f1.f10) ((rd_T49 l1 x5_1).f1.f0) ((rd_T49 l1 x5_1).f1.f1) ((rd_T49 l1 x5_1).f1.f2) ((rd_T49 l1 x5_1).f1.f3) ((rd_T49 l1 x5_1).f1.f4) ((rd_T49 l1 x5_1).f1.f5) ((rd_T49 l1 x5_1).f1.f6) ((rd_T49 l1 x5_1).f1.f7) ((rd_T49 l1 x5_1).f1.f8) _ _ ((rd_T49 l1 x5_1).f1.f9) _ _ ((rd_T49 l1 x5_1).f1.f10) true _ ?side1 ?side2 ?side3 ?side4 ?side5 ?side6 ?side7 ?side8 A8.out).mono ?_
                  (case side1 => repeat (first | exact (Kd.C_below HR187_10.out HB.out) | (with_reducible refine Kd.C_alloc ?_ _) | (with_reducible refine Kd.C_drewN ?_ _) | (with_reducible refine Kd.C_drew ?_)))
                  (case side2 => exact HC187_10.out)
                  (case side3 => repeat (first | exact (Kd.C_below HR187_11.out HB.out) | (with_reducible refine Kd.C_alloc ?_ _) | (with_reducible refine Kd.C_drewN ?_ _) | (with_reducible refine Kd.C_drew ?_)))
                  (case side4 => exact HC187_11.out)
                  (case side5 => repeat (first | exact (Kd.C_below HR188_10.out HB.out) | (with_reducible refine Kd.C_alloc ?_ _) | (with_reducible refine Kd.C_drewN ?_ _) | (with_reducible refine Kd.C_drew ?_)))
                  (case side6 => exact HC188_10.out)
                  (case side7 => repeat (first | exact (Kd.C_below HR188_11.out HB.out) | (with_reducible refine Kd.C_alloc ?_ _) | (with_reducible refine Kd.C_drewN ?_ _) | (with_reducible refine Kd.C_drew ?_)))
                  (case side8 => exact HC188_11.out)
                  rintro e w11 ⟨rfl, hb⟩
                  refine ⟨_, rfl, ?_⟩
                  have n0_ := Aside0.mk (below_step (by repeat (first | (with_reducible first | exact HB.out | apply below_alloc | apply pw_below_drewN | apply below_drew1) | exact HB.out)) hb)
                  clear HB
                  have HB := n0_
                  clear n0_
                  (try clear hb)
                  (try clear hb2)
                  (try clear hk)
                  (try clear hi)
                  refine hK.out _ _ ⟨((HB.out.cell (World.block_lt_of_cell? w _ hw185_0)).trans hw185_0), ((HB.out.cell (World.block_lt_of_cell? w _ hw185_1)).trans hw185_1), ((HB.out.cell (World.block_lt_of_cell? w _ hw185_2)).trans hw185_2), ((HB.out.cell (World.block_lt_of_cell? w _ hw185_3)).trans hw185_3), ((HB.out.cell (World.block_lt_of_cell? w _ hw185_4)).trans hw185_4), ((HB.out.cell (World.block_lt_of_cell? w _ hw185_5)).trans hw185_5), ((HB.out.cell (World.block_lt_of_cell? w _ hw185_6)).trans hw185_6), ((HB.out.cell (World.block_lt_of_cell? w _ hw185_7)).trans hw185_7), ((HB.out.cell (World.block_lt_of_cell? w _ hw185_8)).trans hw185_8), ((HB.out.cell (World.block_lt_of_cell? w _ hw185_9)).trans hw185_9), ((HB.out.cell (World.block_lt_of_cell? w _ hw185_10)).trans hw185_10), ((HB.out.cell (World.block_lt_of_cell? w _ hw185_11)).trans hw185_11), ((HB.out.cell (World.block_lt_of_cell? w _ hw186_0)).trans hw186_0), ((HB.out.cell (World.block_lt_of_cell? w _ hw186_1)).trans hw186_1), ((HB.out.cell (World.block_lt_of_cell? w _ hw186_2)).trans hw186_2), ((HB.out.cell (World.block_lt_of_cell? w _ hw186_3)).trans hw186_3), ((HB.out.cell (World.block_lt_of_cell? w _ hw186_4)).trans hw186_4), ((HB.out.cell (World.block_lt_of_cell? w _ hw186_5)).trans hw186_5), ((HB.out.cell (World.block_lt_of_cell? w _ hw186_6)).trans hw186_6), ((HB.out.cell (World.block_lt_of_cell? w _ hw186_7)).trans hw186_7), ((HB.out.cell (World.block_lt_of_cell? w _ hw186_8)).trans hw186_8), ((HB.out.cell (World.block_lt_of_cell? w _ hw186_9)).trans hw186_9), ((HB.out.cell (World.block_lt_of_cell? w _ hw186_10)).trans hw186_10), ((HB.out.cell (World.block_lt_of_cell? w _ hw186_11)).trans hw186_11), ((HB.out.cell (World.block_lt_of_cell? w _ hw187_0)).trans hw187_0), ((HB.out.cell (World.block_lt_of_cell? w _ hw187_1)).trans hw187_1), ((HB.out.cell (World.block_lt_of_cell? w _ hw187_2)).trans hw187_2), ((HB.out.cell (World.block_lt_of_cell? w _ hw187_3)).trans hw187_3), ((HB.out.cell (World.block_lt_of_cell? w _ hw187_4)).trans hw187_4), ((HB.out.cell (World.block_lt_of_cell? w _ hw187_5)).trans hw187_5), ((HB.out.cell (World.block_lt_of_cell? w _ hw187_6)).trans hw187_6), ((HB.out.cell (World.block_lt_of_cell? w _ hw187_7)).trans hw187_7), ((HB.out.cell (World.block_lt_of_cell? w _ hw187_8)).trans hw187_8), ((HB.out.cell (World.block_lt_of_cell? w _ hw187_9)).trans hw187_9), ((HB.out.cell (World.block_lt_of_cell? w _ hw187_10)).trans hw187_10), ((HB.out.cell (World.block_lt_of_cell? w _ hw187_11)).trans hw187_11), ((HB.out.cell (World.block_lt_of_cell? w _ hw188_0)).trans hw188_0), ((HB.out.cell (World.block_lt_of_cell? w _ hw188_1)).trans hw188_1), ((HB.out.cell (World.block_lt_of_cell? w _ hw188_2)).trans hw188_2), ((HB.out.cell (World.block_lt_of_cell? w _ hw188_3)).trans hw188_3), ((HB.out.cell (World.block_lt_of_cell? w _ hw188_4)).trans hw188_4), ((HB.out.cell (World.block_lt_of_cell? w _ hw188_5)).trans hw188_5), ((HB.out.cell (World.block_lt_of_cell? w _ hw188_6)).trans hw188_6), ((HB.out.cell (World.block_lt_of_cell? w _ hw188_7)).trans hw188_7), ((HB.out.cell (World.block_lt_of_cell? w _ hw188_8)).trans hw188_8), ((HB.out.cell (World.block_lt_of_cell? w _ hw188_9)).trans hw188_9), ((HB.out.cell (World.block_lt_of_cell? w _ hw188_10)).trans hw188_10), ((HB.out.cell (World.block_lt_of_cell? w _ hw188_11)).trans hw188_11)⟩ (fun hHeld => ?_)
                  clear hK K
                  refine norm_ (a' := ?_) ?_ ?_
                  rotate_left
                  · show Act.put _ (some 39) _ = _
                    simp only [Act.put, List.setIfInBounds_toArray, List.set_cons_zero, List.set_cons_succ, i64_w, i32_w]
                    rfl
                  refine pure_ (i := 23) (N := some 40) (v := ?_) (a' := ?_) #[true, true, true, true, true, true, true, true, true, true, true, true, true, true, true, true, true, true, true, true, true, true, true, true, false] rfl rfl (any_of HT_.out (by kernel_rfl)) (fun _ _ _ h => h) (Or.inl ⟨by rfl, ?_⟩) ?_ ?_
                  rotate_left
                  · intro w'
                    go_simp
                    with_reducible rfl
                  rotate_left
                  · simp only [Act.put, List.setIfInBounds_toArray, List.set_cons_zero, List.set_cons_succ, i64_w, i32_w]
                    rfl
                  refine pure_ (i := 24) (N := some 41) (v := ?_) (a' := ?_) #[true, true, true, true, true, true, true, true, true, true, true, true, true, true, true, true, true, true, true, true, true, true, true, true, true] rfl rfl (any_of HT_.out (by kernel_rfl)) (fun _ _ _ h => h) (Or.inl ⟨by rfl, ?_⟩) ?_ ?_
                  rotate_left
                  · intro w'
                    go_simp
                    with_reducible rfl
                  rotate_left
                  · simp only [Act.put, List.setIfInBounds_toArray, List.set_cons_zero, List.set_cons_succ, i64_w, i32_w]
                    rfl
                  refine done_ (done_of HT_.out (by kernel_rfl)) ?_
                  try go_wp2
                  go_roundg k1
                  case measure => have := HK1.out; omega
                  case rel => exact ⟨(wrap64 (x5_1 + 1)), (by first | rfl | (simp; done) | (simp [*]; done)), H', ⟨by have := HK1.out; omega⟩, ⟨by repeat (first | (with_reducible first | exact HB.out | apply below_alloc | apply pw_below_drewN | apply below_drew1) | exact HB.out)⟩⟩
                · replace c9 := Bool.eq_false_iff.mpr c9
                  subst c9
                  have H1 : (some false) = some r := by rw [if_neg (show ¬ (false = true) by decide)] at H; exact H
                  clear H
                  have H := H1
                  clear H1
                  obtain rfl := Option.some.inj H
                  try go_wp2
                  have n0_ := Aside0.mk (below_drew1 HB.out)
                  clear HB
                  have HB := n0_
                  clear n0_
                  have p185 : 0 ≤ (x5_1 : Int) := of_decide_eq_true (by first | (with_reducible assumption) | assumption)
                  have q185 : x5_1 < (l0.length : Int) := of_decide_eq_true (by first | (with_reducible assumption) | assumption)
                  obtain ⟨ad185, A185_10, c185_10, A185_11, c185_11, e185, hx185_0, hx185_1, hx185_2, hx185_3, hx185_4, hx185_5, hx185_6, hx185_7, hx185_8, hx185_9, hx185_10, hx185_11, hl185_10, hi185_10, hl185_11, hi185_11⟩ := at_T49 HR0.out x5_1 p185 q185
                  have hw185_11 := hx185_11
                  have hw185_10 := hx185_10
                  have hw185_9 := hx185_9
                  have hw185_8 := hx185_8
                  have hw185_7 := hx185_7
                  have hw185_6 := hx185_6
                  have hw185_5 := hx185_5
                  have hw185_4 := hx185_4
                  have hw185_3 := hx185_3
                  have hw185_2 := hx185_2
                  have hw185_1 := hx185_1
                  have hw185_0 := hx185_0
                  cases e185
                  replace hx185_0 := (HB.out.cell (World.block_lt_of_cell? w _ hx185_0)).trans hx185_0
                  replace hx185_1 := (HB.out.cell (World.block_lt_of_cell? w _ hx185_1)).trans hx185_1
                  replace hx185_2 := (HB.out.cell (World.block_lt_of_cell? w _ hx185_2)).trans hx185_2
                  replace hx185_3 := (HB.out.cell (World.block_lt_of_cell? w _ hx185_3)).trans hx185_3
                  replace hx185_4 := (HB.out.cell (World.block_lt_of_cell? w _ hx185_4)).trans hx185_4
                  replace hx185_5 := (HB.out.cell (World.block_lt_of_cell? w _ hx185_5)).trans hx185_5
                  replace hx185_6 := (HB.out.cell (World.block_lt_of_cell? w _ hx185_6)).trans hx185_6
                  replace hx185_7 := (HB.out.cell (World.block_lt_of_cell? w _ hx185_7)).trans hx185_7
                  replace hx185_8 := (HB.out.cell (World.block_lt_of_cell? w _ hx185_8)).trans hx185_8
                  replace hx185_9 := (HB.out.cell (World.block_lt_of_cell? w _ hx185_9)).trans hx185_9
                  replace hx185_10 := (HB.out.cell (World.block_lt_of_cell? w _ hx185_10)).trans hx185_10
                  replace hx185_11 := (HB.out.cell (World.block_lt_of_cell? w _ hx185_11)).trans hx185_11
                  have HR185_10 := Aside0.mk hi185_10
                  have HC185_10 := Aside0.mk hl185_10
                  clear hi185_10 hl185_10
                  have HR185_11 := Aside0.mk hi185_11
                  have HC185_11 := Aside0.mk hl185_11
                  clear hi185_11 hl185_11
                  replace p185 := eq_true p185
                  replace q185 := eq_true q185
                  have p186 : 0 ≤ (x5_1 : Int) := of_decide_eq_true (by first | (with_reducible assumption) | assumption)
                  have q186 : x5_1 < (l1.length : Int) := of_decide_eq_true (by first | (with_reducible assumption) | assumption)
                  obtain ⟨ad186, A186_10, c186_10, A186_11, c186_11, e186, hx186_0, hx186_1, hx186_2, hx186_3, hx186_4, hx186_5, hx186_6, hx186_7, hx186_8, hx186_9, hx186_10, hx186_11, hl186_10, hi186_10, hl186_11, hi186_11⟩ := at_T49 HR1.out x5_1 p186 q186
                  have hw186_11 := hx186_11
                  have hw186_10 := hx186_10
                  have hw186_9 := hx186_9
                  have hw186_8 := hx186_8
                  have hw186_7 := hx186_7
                  have hw186_6 := hx186_6
                  have hw186_5 := hx186_5
                  have hw186_4 := hx186_4
                  have hw186_3 := hx186_3
                  have hw186_2 := hx186_2
                  have hw186_1 := hx186_1
                  have hw186_0 := hx186_0
                  cases e186
                  replace hx186_0 := (HB.out.cell (World.block_lt_of_cell? w _ hx186_0)).trans hx186_0
                  replace hx186_1 := (HB.out.cell (World.block_lt_of_cell? w _ hx186_1)).trans hx186_1
                  replace hx186_2 := (HB.out.cell (World.block_lt_of_cell? w _ hx186_2)).trans hx186_2
                  replace hx186_3 := (HB.out.cell (World.block_lt_of_cell? w _ hx186_3)).trans hx186_3
                  replace hx186_4 := (HB.out.cell (World.block_lt_of_cell? w _ hx186_4)).trans hx186_4
                  replace hx186_5 := (HB.out.cell (World.block_lt_of_cell? w _ hx186_5)).trans hx186_5
                  replace hx186_6 := (HB.out.cell (World.block_lt_of_cell? w _ hx186_6)).trans hx186_6
                  replace hx186_7 := (HB.out.cell (World.block_lt_of_cell? w _ hx186_7)).trans hx186_7
                  replace hx186_8 := (HB.out.cell (World.block_lt_of_cell? w _ hx186_8)).trans hx186_8
                  replace hx186_9 := (HB.out.cell (World.block_lt_of_cell? w _ hx186_9)).trans hx186_9
                  replace hx186_10 := (HB.out.cell (World.block_lt_of_cell? w _ hx186_10)).trans hx186_10
                  replace hx186_11 := (HB.out.cell (World.block_lt_of_cell? w _ hx186_11)).trans hx186_11
                  have HR186_10 := Aside0.mk hi186_10
                  have HC186_10 := Aside0.mk hl186_10
                  clear hi186_10 hl186_10
                  have HR186_11 := Aside0.mk hi186_11
                  have HC186_11 := Aside0.mk hl186_11
                  clear hi186_11 hl186_11
                  replace p186 := eq_true p186
                  replace q186 := eq_true q186
                  have p187 : 0 ≤ (x5_1 : Int) := of_decide_eq_true (by first | (with_reducible assumption) | assumption)
                  have q187 : x5_1 < (l0.length : Int) := of_decide_eq_true (by first | (with_reducible assumption) | assumption)
                  obtain ⟨ad187, A187_10, c187_10, A187_11, c187_11, e187, hx187_0, hx187_1, hx187_2, hx187_3, hx187_4, hx187_5, hx187_6, hx187_7, hx187_8, hx187_9, hx187_10, hx187_11, hl187_10, hi187_10, hl187_11, hi187_11⟩ := at_T49 HR0.out x5_1 p187 q187
                  have hw187_11 := hx187_11
                  have hw187_10 := hx187_10
                  have hw187_9 := hx187_9
                  have hw187_8 := hx187_8
                  have hw187_7 := hx187_7
                  have hw187_6 := hx187_6
                  have hw187_5 := hx187_5
                  have hw187_4 := hx187_4
                  have hw187_3 := hx187_3
                  have hw187_2 := hx187_2
                  have hw187_1 := hx187_1
                  have hw187_0 := hx187_0
                  obtain rfl : ad185 = ad187 := (by injection e187)
                  replace hx187_0 := (HB.out.cell (World.block_lt_of_cell? w _ hx187_0)).trans hx187_0
                  replace hx187_1 := (HB.out.cell (World.block_lt_of_cell? w _ hx187_1)).trans hx187_1
                  replace hx187_2 := (HB.out.cell (World.block_lt_of_cell? w _ hx187_2)).trans hx187_2
                  replace hx187_3 := (HB.out.cell (World.block_lt_of_cell? w _ hx187_3)).trans hx187_3
                  replace hx187_4 := (HB.out.cell (World.block_lt_of_cell? w _ hx187_4)).trans hx187_4
                  replace hx187_5 := (HB.out.cell (World.block_lt_of_cell? w _ hx187_5)).trans hx187_5
                  replace hx187_6 := (HB.out.cell (World.block_lt_of_cell? w _ hx187_6)).trans hx187_6
                  replace hx187_7 := (HB.out.cell (World.block_lt_of_cell? w _ hx187_7)).trans hx187_7
                  replace hx187_8 := (HB.out.cell (World.block_lt_of_cell? w _ hx187_8)).trans hx187_8
                  replace hx187_9 := (HB.out.cell (World.block_lt_of_cell? w _ hx187_9)).trans hx187_9
                  replace hx187_10 := (HB.out.cell (World.block_lt_of_cell? w _ hx187_10)).trans hx187_10
                  replace hx187_11 := (HB.out.cell (World.block_lt_of_cell? w _ hx187_11)).trans hx187_11
                  have HR187_10 := Aside0.mk hi187_10
                  have HC187_10 := Aside0.mk hl187_10
                  clear hi187_10 hl187_10
                  have HR187_11 := Aside0.mk hi187_11
                  have HC187_11 := Aside0.mk hl187_11
                  clear hi187_11 hl187_11
                  replace p187 := eq_true p187
                  replace q187 := eq_true q187
                  have ea_ := Option.some.inj (hx185_10.symm.trans hx187_10)
                  injection ea_ with ea_ en_ ec_
                  subst ea_
                  subst ec_
                  clear en_
                  have ea_ := Option.some.inj (hx185_11.symm.trans hx187_11)
                  injection ea_ with ea_ en_ ec_
                  subst ea_
                  subst ec_
                  clear en_
                  have p188 : 0 ≤ (x5_1 : Int) := of_decide_eq_true (by first | (with_reducible assumption) | assumption)
                  have q188 : x5_1 < (l1.length : Int) := of_decide_eq_true (by first | (with_reducible assumption) | assumption)
                  obtain ⟨ad188, A188_10, c188_10, A188_11, c188_11, e188, hx188_0, hx188_1, hx188_2, hx188_3, hx188_4, hx188_5, hx188_6, hx188_7, hx188_8, hx188_9, hx188_10, hx188_11, hl188_10, hi188_10, hl188_11, hi188_11⟩ := at_T49 HR1.out x5_1 p188 q188
                  have hw188_11 := hx188_11
                  have hw188_10 := hx188_10
                  have hw188_9 := hx188_9
                  have hw188_8 := hx188_8
                  have hw188_7 := hx188_7
                  have hw188_6 := hx188_6
                  have hw188_5 := hx188_5
                  have hw188_4 := hx188_4
                  have hw188_3 := hx188_3
                  have hw188_2 := hx188_2
                  have hw188_1 := hx188_1
                  have hw188_0 := hx188_0
                  obtain rfl : ad186 = ad188 := (by injection e188)
                  replace hx188_0 := (HB.out.cell (World.block_lt_of_cell? w _ hx188_0)).trans hx188_0
                  replace hx188_1 := (HB.out.cell (World.block_lt_of_cell? w _ hx188_1)).trans hx188_1
                  replace hx188_2 := (HB.out.cell (World.block_lt_of_cell? w _ hx188_2)).trans hx188_2
                  replace hx188_3 := (HB.out.cell (World.block_lt_of_cell? w _ hx188_3)).trans hx188_3
                  replace hx188_4 := (HB.out.cell (World.block_lt_of_cell? w _ hx188_4)).trans hx188_4
                  replace hx188_5 := (HB.out.cell (World.block_lt_of_cell? w _ hx188_5)).trans hx188_5
                  replace hx188_6 := (HB.out.cell (World.block_lt_of_cell? w _ hx188_6)).trans hx188_6
                  replace hx188_7 := (HB.out.cell (World.block_lt_of_cell? w _ hx188_7)).trans hx188_7
                  replace hx188_8 := (HB.out.cell (World.block_lt_of_cell? w _ hx188_8)).trans hx188_8
                  replace hx188_9 := (HB.out.cell (World.block_lt_of_cell? w _ hx188_9)).trans hx188_9
                  replace hx188_10 := (HB.out.cell (World.block_lt_of_cell? w _ hx188_10)).trans hx188_10
                  replace hx188_11 := (HB.out.cell (World.block_lt_of_cell? w _ hx188_11)).trans hx188_11
                  have HR188_10 := Aside0.mk hi188_10
                  have HC188_10 := Aside0.mk hl188_10
                  clear hi188_10 hl188_10
                  have HR188_11 := Aside0.mk hi188_11
                  have HC188_11 := Aside0.mk hl188_11
                  clear hi188_11 hl188_11
                  replace p188 := eq_true p188
                  replace q188 := eq_true q188
                  have ea_ := Option.some.inj (hx186_10.symm.trans hx188_10)
                  injection ea_ with ea_ en_ ec_
                  subst ea_
                  subst ec_
                  clear en_
                  have ea_ := Option.some.inj (hx186_11.symm.trans hx188_11)
                  injection ea_ with ea_ en_ ec_
                  subst ea_
                  subst ec_
                  clear en_
                  refine start_ (n := 25) (S := fun w' => w'.cell? (ad185.add ((x5_1).toNat * 12)) = some (.int .i64 ((rd_T49 l0 x5_1).f0)) ∧ w'.cell? ⟨(ad185.add ((x5_1).toNat * 12)).block, (ad185.add ((x5_1).toNat * 12)).off + 1, none⟩ = some (.int .i64 ((rd_T49 l0 x5_1).f1.f0)) ∧ w'.cell? ⟨(ad185.add ((x5_1).toNat * 12)).block, (ad185.add ((x5_1).toNat * 12)).off + 2, none⟩ = some (.int .i64 ((rd_T49 l0 x5_1).f1.f1)) ∧ w'.cell? ⟨(ad185.add ((x5_1).toNat * 12)).block, (ad185.add ((x5_1).toNat * 12)).off + 3, none⟩ = some (.int .i64 ((rd_T49 l0 x5_1).f1.f2)) ∧ w'.cell? ⟨(ad185.add ((x5_1).toNat * 12)).block, (ad185.add ((x5_1).toNat * 12)).off + 4, none⟩ = some (.int .i64 ((rd_T49 l0 x5_1).f1.f3)) ∧ w'.cell? ⟨(ad185.add ((x5_1).toNat * 12)).block, (ad185.add ((x5_1).toNat * 12)).off + 5, none⟩ = some (.int .i64 ((rd_T49 l0 x5_1).f1.f4)) ∧ w'.cell? ⟨(ad185.add ((x5_1).toNat * 12)).block, (ad185.add ((x5_1).toNat * 12)).off + 6, none⟩ = some (.int .i64 ((rd_T49 l0 x5_1).f1.f5)) ∧ w'.cell? ⟨(ad185.add ((x5_1).toNat * 12)).block, (ad185.add ((x5_1).toNat * 12)).off + 7, none⟩ = some (.int .i64 ((rd_T49 l0 x5_1).f1.f6)) ∧ w'.cell? ⟨(ad185.add ((x5_1).toNat * 12)).block, (ad185.add ((x5_1).toNat * 12)).off + 8, none⟩ = some (.string ((rd_T49 l0 x5_1).f1.f7)) ∧ w'.cell? ⟨(ad185.add ((x5_1).toNat * 12)).block, (ad185.add ((x5_1).toNat * 12)).off + 9, none⟩ = some (.string ((rd_T49 l0 x5_1).f1.f8)) ∧ w'.cell? ⟨(ad185.add ((x5_1).toNat * 12)).block, (ad185.add ((x5_1).toNat * 12)).off + 10, none⟩ = some (.slice A185_10 ((rd_T49 l0 x5_1).f1.f9).length c185_10) ∧ w'.cell? ⟨(ad185.add ((x5_1).toNat * 12)).block, (ad185.add ((x5_1).toNat * 12)).off + 11, none⟩ = some (.slice A185_11 ((rd_T49 l0 x5_1).f1.f10).length c185_11) ∧ w'.cell? (ad186.add ((x5_1).toNat * 12)) = some (.int .i64 ((rd_T49 l1 x5_1).f0)) ∧ w'.cell? ⟨(ad186.add ((x5_1).toNat * 12)).block, (ad186.add ((x5_1).toNat * 12)).off + 1, none⟩ = some (.int .i64 ((rd_T49 l1 x5_1).f1.f0)) ∧ w'.cell? ⟨(ad186.add ((x5_1).toNat * 12)).block, (ad186.add ((x5_1).toNat * 12)).off + 2, none⟩ = some (.int .i64 ((rd_T49 l1 x5_1).f1.f1)) ∧ w'.cell? ⟨(ad186.add ((x5_1).toNat * 12)).block, (ad186.add ((x5_1).toNat * 12)).off + 3, none⟩ = some (.int .i64 ((rd_T49 l1 x5_1).f1.f2)) ∧ w'.cell? ⟨(ad186.add ((x5_1).toNat * 12)).block, (ad186.add ((x5_1).toNat * 12)).off + 4, none⟩ = some (.int .i64 ((rd_T49 l1 x5_1).f1.f3)) ∧ w'.cell? ⟨(ad186.add ((x5_1).toNat * 12)).block, (ad186.add ((x5_1).toNat * 12)).off + 5, none⟩ = some (.int .i64 ((rd_T49 l1 x5_1).f1.f4)) ∧ w'.cell? ⟨(ad186.add ((x5_1).toNat * 12)).block, (ad186.add ((x5_1).toNat * 12)).off + 6, none⟩ = some (.int .i64 ((rd_T49 l1 x5_1).f1.f5)) ∧ w'.cell? ⟨(ad186.add ((x5_1).toNat * 12)).block, (ad186.add ((x5_1).toNat * 12)).off + 7, none⟩ = some (.int .i64 ((rd_T49 l1 x5_1).f1.f6)) ∧ w'.cell? ⟨(ad186.add ((x5_1).toNat * 12)).block, (ad186.add ((x5_1).toNat * 12)).off + 8, none⟩ = some (.string ((rd_T49 l1 x5_1).f1.f7)) ∧ w'.cell? ⟨(ad186.add ((x5_1).toNat * 12)).block, (ad186.add ((x5_1).toNat * 12)).off + 9, none⟩ = some (.string ((rd_T49 l1 x5_1).f1.f8)) ∧ w'.cell? ⟨(ad186.add ((x5_1).toNat * 12)).block, (ad186.add ((x5_1).toNat * 12)).off + 10, none⟩ = some (.slice A186_10 ((rd_T49 l1 x5_1).f1.f9).length c186_10) ∧ w'.cell? ⟨(ad186.add ((x5_1).toNat * 12)).block, (ad186.add ((x5_1).toNat * 12)).off + 11, none⟩ = some (.slice A186_11 ((rd_T49 l1 x5_1).f1.f10).length c186_11) ∧ w'.cell? (ad185.add ((x5_1).toNat * 12)) = some (.int .i64 ((rd_T49 l0 x5_1).f0)) ∧ w'.cell? ⟨(ad185.add ((x5_1).toNat * 12)).block, (ad185.add ((x5_1).toNat * 12)).off + 1, none⟩ = some (.int .i64 ((rd_T49 l0 x5_1).f1.f0)) ∧ w'.cell? ⟨(ad185.add ((x5_1).toNat * 12)).block, (ad185.add ((x5_1).toNat * 12)).off + 2, none⟩ = some (.int .i64 ((rd_T49 l0 x5_1).f1.f1)) ∧ w'.cell? ⟨(ad185.add ((x5_1).toNat * 12)).block, (ad185.add ((x5_1).toNat * 12)).off + 3, none⟩ = some (.int .i64 ((rd_T49 l0 x5_1).f1.f2)) ∧ w'.cell? ⟨(ad185.add ((x5_1).toNat * 12)).block, (ad185.add ((x5_1).toNat * 12)).off + 4, none⟩ = some (.int .i64 ((rd_T49 l0 x5_1).f1.f3)) ∧ w'.cell? ⟨(ad185.add ((x5_1).toNat * 12)).block, (ad185.add ((x5_1).toNat * 12)).off + 5, none⟩ = some (.int .i64 ((rd_T49 l0 x5_1).f1.f4)) ∧ w'.cell? ⟨(ad185.add ((x5_1).toNat * 12)).block, (ad185.add ((x5_1).toNat * 12)).off + 6, none⟩ = some (.int .i64 ((rd_T49 l0 x5_1).f1.f5)) ∧ w'.cell? ⟨(ad185.add ((x5_1).toNat * 12)).block, (ad185.add ((x5_1).toNat * 12)).off + 7, none⟩ = some (.int .i64 ((rd_T49 l0 x5_1).f1.f6)) ∧ w'.cell? ⟨(ad185.add ((x5_1).toNat * 12)).block, (ad185.add ((x5_1).toNat * 12)).off + 8, none⟩ = some (.string ((rd_T49 l0 x5_1).f1.f7)) ∧ w'.cell? ⟨(ad185.add ((x5_1).toNat * 12)).block, (ad185.add ((x5_1).toNat * 12)).off + 9, none⟩ = some (.string ((rd_T49 l0 x5_1).f1.f8)) ∧ w'.cell? ⟨(ad185.add ((x5_1).toNat * 12)).block, (ad185.add ((x5_1).toNat * 12)).off + 10, none⟩ = some (.slice A185_10 ((rd_T49 l0 x5_1).f1.f9).length c185_10) ∧ w'.cell? ⟨(ad185.add ((x5_1).toNat * 12)).block, (ad185.add ((x5_1).toNat * 12)).off + 11, none⟩ = some (.slice A185_11 ((rd_T49 l0 x5_1).f1.f10).length c185_11) ∧ w'.cell? (ad186.add ((x5_1).toNat * 12)) = some (.int .i64 ((rd_T49 l1 x5_1).f0)) ∧ w'.cell? ⟨(ad186.add ((x5_1).toNat * 12)).block, (ad186.add ((x5_1).toNat * 12)).off + 1, none⟩ = some (.int .i64 ((rd_T49 l1 x5_1).f1.f0)) ∧ w'.cell? ⟨(ad186.add ((x5_1).toNat * 12)).block, (ad186.add ((x5_1).toNat * 12)).off + 2, none⟩ = some (.int .i64 ((rd_T49 l1 x5_1).f1.f1)) ∧ w'.cell? ⟨(ad186.add ((x5_1).toNat * 12)).block, (ad186.add ((x5_1).toNat * 12)).off + 3, none⟩ = some (.int .i64 ((rd_T49 l1 x5_1).f1.f2)) ∧ w'.cell? ⟨(ad186.add ((x5_1).toNat * 12)).block, (ad186.add ((x5_1).toNat * 12)).off + 4, none⟩ = some (.int .i64 ((rd_T49 l1 x5_1).f1.f3)) ∧ w'.cell? ⟨(ad186.add ((x5_1).toNat * 12)).block, (ad186.add ((x5_1).toNat * 12)).off + 5, none⟩ = some (.int .i64 ((rd_T49 l1 x5_1).f1.f4)) ∧ w'.cell? ⟨(ad186.add ((x5_1).toNat * 12)).block, (ad186.add ((x5_1).toNat * 12)).off + 6, none⟩ = some (.int .i64 ((rd_T49 l1 x5_1).f1.f5)) ∧ w'.cell? ⟨(ad186.add ((x5_1).toNat * 12)).block, (ad186.add ((x5_1).toNat * 12)).off + 7, none⟩ = some (.int .i64 ((rd_T49 l1 x5_1).f1.f6)) ∧ w'.cell? ⟨(ad186.add ((x5_1).toNat * 12)).block, (ad186.add ((x5_1).toNat * 12)).off + 8, none⟩ = some (.string ((rd_T49 l1 x5_1).f1.f7)) ∧ w'.cell? ⟨(ad186.add ((x5_1).toNat * 12)).block, (ad186.add ((x5_1).toNat * 12)).off + 9, none⟩ = some (.string ((rd_T49 l1 x5_1).f1.f8)) ∧ w'.cell? ⟨(ad186.add ((x5_1).toNat * 12)).block, (ad186.add ((x5_1).toNat * 12)).off + 10, none⟩ = some (.slice A186_10 ((rd_T49 l1 x5_1).f1.f9).length c186_10) ∧ w'.cell? ⟨(ad186.add ((x5_1).toNat * 12)).block, (ad186.add ((x5_1).toNat * 12)).off + 11, none⟩ = some (.slice A186_11 ((rd_T49 l1 x5_1).f1.f10).length c186_11)) (ds := []) #[false, false, false, false, false, false, false, false, false, false, false, false, false, false, false, false, false, false, false, false, false, false, false, false, false] (by kernel_rfl) rfl rfl ⟨((HB.out.cell (World.block_lt_of_cell? w _ hw185_0)).trans hw185_0), ((HB.out.cell (World.block_lt_of_cell? w _ hw185_1)).trans hw185_1), ((HB.out.cell (World.block_lt_of_cell? w _ hw185_2)).trans hw185_2), ((HB.out.cell (World.block_lt_of_cell? w _ hw185_3)).trans hw185_3), ((HB.out.cell (World.block_lt_of_cell? w _ hw185_4)).trans hw185_4), ((HB.out.cell (World.block_lt_of_cell? w _ hw185_5)).trans hw185_5), ((HB.out.cell (World.block_lt_of_cell? w _ hw185_6)).trans hw185_6), ((HB.out.cell (World.block_lt_of_cell? w _ hw185_7)).trans hw185_7), ((HB.out.cell (World.block_lt_of_cell? w _ hw185_8)).trans hw185_8), ((HB.out.cell (World.block_lt_of_cell? w _ hw185_9)).trans hw185_9), ((HB.out.cell (World.block_lt_of_cell? w _ hw185_10)).trans hw185_10), ((HB.out.cell (World.block_lt_of_cell? w _ hw185_11)).trans hw185_11), ((HB.out.cell (World.block_lt_of_cell? w _ hw186_0)).trans hw186_0), ((HB.out.cell (World.block_lt_of_cell? w _ hw186_1)).trans hw186_1), ((HB.out.cell (World.block_lt_of_cell? w _ hw186_2)).trans hw186_2), ((HB.out.cell (World.block_lt_of_cell? w _ hw186_3)).trans hw186_3), ((HB.out.cell (World.block_lt_of_cell? w _ hw186_4)).trans hw186_4), ((HB.out.cell (World.block_lt_of_cell? w _ hw186_5)).trans hw186_5), ((HB.out.cell (World.block_lt_of_cell? w _ hw186_6)).trans hw186_6), ((HB.out.cell (World.block_lt_of_cell? w _ hw186_7)).trans hw186_7), ((HB.out.cell (World.block_lt_of_cell? w _ hw186_8)).trans hw186_8), ((HB.out.cell (World.block_lt_of_cell? w _ hw186_9)).trans hw186_9), ((HB.out.cell (World.block_lt_of_cell? w _ hw186_10)).trans hw186_10), ((HB.out.cell (World.block_lt_of_cell? w _ hw186_11)).trans hw186_11), ((HB.out.cell (World.block_lt_of_cell? w _ hw187_0)).trans hw187_0), ((HB.out.cell (World.block_lt_of_cell? w _ hw187_1)).trans hw187_1), ((HB.out.cell (World.block_lt_of_cell? w _ hw187_2)).trans hw187_2), ((HB.out.cell (World.block_lt_of_cell? w _ hw187_3)).trans hw187_3), ((HB.out.cell (World.block_lt_of_cell? w _ hw187_4)).trans hw187_4), ((HB.out.cell (World.block_lt_of_cell? w _ hw187_5)).trans hw187_5), ((HB.out.cell (World.block_lt_of_cell? w _ hw187_6)).trans hw187_6), ((HB.out.cell (World.block_lt_of_cell? w _ hw187_7)).trans hw187_7), ((HB.out.cell (World.block_lt_of_cell? w _ hw187_8)).trans hw187_8), ((HB.out.cell (World.block_lt_of_cell? w _ hw187_9)).trans hw187_9), ((HB.out.cell (World.block_lt_of_cell? w _ hw187_10)).trans hw187_10), ((HB.out.cell (World.block_lt_of_cell? w _ hw187_11)).trans hw187_11), ((HB.out.cell (World.block_lt_of_cell? w _ hw188_0)).trans hw188_0), ((HB.out.cell (World.block_lt_of_cell? w _ hw188_1)).trans hw188_1), ((HB.out.cell (World.block_lt_of_cell? w _ hw188_2)).trans hw188_2), ((HB.out.cell (World.block_lt_of_cell? w _ hw188_3)).trans hw188_3), ((HB.out.cell (World.block_lt_of_cell? w _ hw188_4)).trans hw188_4), ((HB.out.cell (World.block_lt_of_cell? w _ hw188_5)).trans hw188_5), ((HB.out.cell (World.block_lt_of_cell? w _ hw188_6)).trans hw188_6), ((HB.out.cell (World.block_lt_of_cell? w _ hw188_7)).trans hw188_7), ((HB.out.cell (World.block_lt_of_cell? w _ hw188_8)).trans hw188_8), ((HB.out.cell (World.block_lt_of_cell? w _ hw188_9)).trans hw188_9), ((HB.out.cell (World.block_lt_of_cell? w _ hw188_10)).trans hw188_10), ((HB.out.cell (World.block_lt_of_cell? w _ hw188_11)).trans hw188_11)⟩ (fun hHeld => ?_); refine with_tabW careenref04_SameAll.tab6 careenref04_SameAll.bits6 (fun HT_ HW_ => ?_)
                  generalize wr.drew = w12 at HB HR185_10 HR185_11 HR186_10 HR186_11 HR187_10 HR187_11 HR188_10 HR188_11 hx185_0 hx185_1 hx185_10 hx185_11 hx185_2 hx185_3 hx185_4 hx185_5 hx185_6 hx185_7 hx185_8 hx185_9 hx186_0 hx186_1 hx186_10 hx186_11 hx186_2 hx186_3 hx186_4 hx186_5 hx186_6 hx186_7 hx186_8 hx186_9 hx187_0 hx187_1 hx187_10 hx187_11 hx187_2 hx187_3 hx187_4 hx187_5 hx187_6 hx187_7 hx187_8 hx187_9 hx188_0 hx188_1 hx188_10 hx188_11 hx188_2 hx188_3 hx188_4 hx188_5 hx188_6 hx188_7 hx188_8 hx188_9 hHeld ⊢
                  refine pure_ (i := 0) (N := some 17) (v := ?_) (a' := ?_) #[true, false, false, false, false, false, false, false, false, false, false, false, false, false, false, false, false, false, false, false, false, false, false, false, false] rfl rfl (any_of HT_.out (by kernel_rfl)) (fun _ _ _ h => h) (Or.inl ⟨by rfl, ?_⟩) ?_ ?_
                  rotate_left
                  · intro w'
                    go_simp
                    with_reducible rfl
                  rotate_left
                  · simp only [Act.put, List.setIfInBounds_toArray, List.set_cons_zero, List.set_cons_succ, i64_w, i32_w]
                    rfl
                  refine pure_ (i := 1) (N := some 18) (v := ?_) (a' := ?_) #[true, true, false, false, false, false, false, false, false, false, false, false, false, false, false, false, false, false, false, false, false, false, false, false, false] rfl rfl (any_of HT_.out (by kernel_rfl)) (fun _ _ _ h => h) (Or.inl ⟨by rfl, ?_⟩) ?_ ?_
                  rotate_left
                  · intro w'
                    go_simp
                    with_reducible rfl
                  rotate_left
                  · simp only [Act.put, List.setIfInBounds_toArray, List.set_cons_zero, List.set_cons_succ, i64_w, i32_w]
                    rfl
                  refine pure_ (i := 2) (N := some 19) (v := ?_) (a' := ?_) #[true, true, true, false, false, false, false, false, false, false, false, false, false, false, false, false, false, false, false, false, false, false, false, false, false] rfl rfl (any_of HT_.out (by kernel_rfl)) (fun _ _ _ h => h) (Or.inl ⟨by rfl, ?_⟩) ?_ ?_
                  rotate_left
                  · intro w'
                    go_simp
                    with_reducible rfl
                  rotate_left
                  · simp only [Act.put, List.setIfInBounds_toArray, List.set_cons_zero, List.set_cons_succ, i64_w, i32_w]
                    rfl
                  refine pure_ (i := 3) (N := some 20) (v := ?_) (a' := ?_) #[true, true, true, true, false, false, false, false, false, false, false, false, false, false, false, false, false, false, false, false, false, false, false, false, false] rfl rfl (any_of HT_.out (by kernel_rfl)) (fun _ _ _ h => h) (Or.inl ⟨by rfl, ?_⟩) ?_ ?_
                  rotate_left
                  · intro w'
                    go_simp
                    with_reducible rfl
                  rotate_left
                  · simp only [Act.put, List.setIfInBounds_toArray, List.set_cons_zero, List.set_cons_succ, i64_w, i32_w]
                    rfl
                  refine pure_ (i := 5) (N := some 22) (v := ?_) (a' := ?_) #[true, true, true, true, false, true, false, false, false, false, false, false, false, false, false, false, false, false, false, false, false, false, false, false, false] rfl rfl (any_of HT_.out (by kernel_rfl)) (fun _ _ _ h => h) (Or.inl ⟨by rfl, ?_⟩) ?_ ?_
                  rotate_left
                  · intro w'
                    go_simp
                    with_reducible rfl
                  rotate_left
                  · simp only [Act.put, List.setIfInBounds_toArray, List.set_cons_zero, List.set_cons_succ, i64_w, i32_w]
                    rfl
                  refine pure_ (i := 6) (N := some 23) (v := ?_) (a' := ?_) #[true, true, true, true, false, true, true, false, false, false, false, false, false, false, false, false, false, false, false, false, false, false, false, false, false] rfl rfl (any_of HT_.out (by kernel_rfl)) (fun _ _ _ h => h) (Or.inl ⟨by rfl, ?_⟩) ?_ ?_
                  rotate_left
                  · intro w'
                    go_simp
                    with_reducible rfl
                  rotate_left
                  · simp only [Act.put, List.setIfInBounds_toArray, List.set_cons_zero, List.set_cons_succ, i64_w, i32_w]
                    rfl
                  refine pure_ (i := 7) (N := some 24) (v := ?_) (a' := ?_) #[true, true, true, true, false, true, true, true, false, false, false, false, false, false, false, false, false, false, false, false, false, false, false, false, false] rfl rfl (any_of HT_.out (by kernel_rfl)) (fun _ _ _ h => h) (Or.inl ⟨by rfl, ?_⟩) ?_ ?_
                  rotate_left
                  · intro w'
                    go_simp
                    with_reducible rfl
                  rotate_left
                  · simp only [Act.put, List.setIfInBounds_toArray, List.set_cons_zero, List.set_cons_succ, i64_w, i32_w]
                    rfl
                  refine pure_ (i := 8) (N := some 25) (v := ?_) (a' := ?_) #[true, true, true, true, false, true, true, true, true, false, false, false, false, false, false, false, false, false, false, false, false, false, false, false, false] rfl rfl (any_of HT_.out (by kernel_rfl)) (fun _ _ _ h => h) (Or.inl ⟨by rfl, ?_⟩) ?_ ?_
                  rotate_left
                  · intro w'
                    go_simp
                    with_reducible rfl
                  rotate_left
                  · simp only [Act.put, List.setIfInBounds_toArray, List.set_cons_zero, List.set_cons_succ, i64_w, i32_w]
                    rfl
                  refine take_ (i := 4) (N := some 21) (v := ?_) (a' := ?_) #[true, true, true, true, true, true, true, true, true, false, false, false, false, false, false, false, false, false, false, false, false, false, false, false, false] rfl rfl (take_ofW HT_.out HW_.out (by kernel_rfl)) (fun _ _ _ h => h) (Or.inl ⟨by rfl, ?_⟩) hHeld ?_ ?_
                  rotate_left
                  · rintro w' ⟨s0, s1, s2, s3, s4, s5, s6, s7, s8, s9, s10, s11, s12, s13, s14, s15, s16, s17, s18, s19, s20, s21, s22, s23, s24, s25, s26, s27, s28, s29, s30, s31, s32, s33, s34, s35, s36, s37, s38, s39, s40, s41, s42, s43, s44, s45, s46, s47⟩
                    go_simp
                    with_reducible rfl
                  rotate_left
                  · simp only [Act.put, List.setIfInBounds_toArray, List.set_cons_zero, List.set_cons_succ, i64_w, i32_w]
                    rfl
                  refine take_ (i := 9) (N := some 26) (v := ?_) (a' := ?_) #[true, true, true, true, true, true, true, true, true, true, false, false, false, false, false, false, false, false, false, false, false, false, false, false, false] rfl rfl (take_ofW HT_.out HW_.out (by kernel_rfl)) (fun _ _ _ h => h) (Or.inl ⟨by rfl, ?_⟩) hHeld ?_ ?_
                  rotate_left
                  · rintro w' ⟨s0, s1, s2, s3, s4, s5, s6, s7, s8, s9, s10, s11, s12, s13, s14, s15, s16, s17, s18, s19, s20, s21, s22, s23, s24, s25, s26, s27, s28, s29, s30, s31, s32, s33, s34, s35, s36, s37, s38, s39, s40, s41, s42, s43, s44, s45, s46, s47⟩
                    go_simp
                    with_reducible rfl
                  rotate_left
                  · simp only [Act.put, List.setIfInBounds_toArray, List.set_cons_zero, List.set_cons_succ, i64_w, i32_w]
                    rfl
                  refine pure_ (i := 10) (N := some 27) (v := ?_) (a' := ?_) #[true, true, true, true, true, true, true, true, true, true, true, false, false, false, false, false, false, false, false, false, false, false, false, false, false] rfl rfl (any_of HT_.out (by kernel_rfl)) (fun _ _ _ h => h) (Or.inl ⟨by rfl, ?_⟩) ?_ ?_
                  rotate_left
                  · intro w'
                    go_simp
                    with_reducible rfl
                  rotate_left
                  · simp only [Act.put, List.setIfInBounds_toArray, List.set_cons_zero, List.set_cons_succ, i64_w, i32_w]
                    rfl
                  refine pure_ (i := 11) (N := some 28) (v := ?_) (a' := ?_) #[true, true, true, true, true, true, true, true, true, true, true, true, false, false, false, false, false, false, false, false, false, false, false, false, false] rfl rfl (any_of HT_.out (by kernel_rfl)) (fun _ _ _ h => h) (Or.inl ⟨by rfl, ?_⟩) ?_ ?_
                  rotate_left
                  · intro w'
                    go_simp
                    with_reducible rfl
                  rotate_left
                  · simp only [Act.put, List.setIfInBounds_toArray, List.set_cons_zero, List.set_cons_succ, i64_w, i32_w]
                    rfl
                  refine pure_ (i := 12) (N := some 29) (v := ?_) (a' := ?_) #[true, true, true, true, true, true, true, true, true, true, true, true, true, false, false, false, false, false, false, false, false, false, false, false, false] rfl rfl (any_of HT_.out (by kernel_rfl)) (fun _ _ _ h => h) (Or.inl ⟨by rfl, ?_⟩) ?_ ?_
                  rotate_left
                  · intro w'
                    go_simp
                    with_reducible rfl
                  rotate_left
                  · simp only [Act.put, List.setIfInBounds_toArray, List.set_cons_zero, List.set_cons_succ, i64_w, i32_w]
                    rfl
                  refine pure_ (i := 13) (N := some 30) (v := ?_) (a' := ?_) #[true, true, true, true, true, true, true, true, true, true, true, true, true, true, false, false, false, false, false, false, false, false, false, false, false] rfl rfl (any_of HT_.out (by kernel_rfl)) (fun _ _ _ h => h) (Or.inl ⟨by rfl, ?_⟩) ?_ ?_
                  rotate_left
                  · intro w'
                    go_simp
                    with_reducible rfl
                  rotate_left
                  · simp only [Act.put, List.setIfInBounds_toArray, List.set_cons_zero, List.set_cons_succ, i64_w, i32_w]
                    rfl
                  refine pure_ (i := 14) (N := some 31) (v := ?_) (a' := ?_) #[true, true, true, true, true, true, true, true, true, true, true, true, true, true, true, false, false, false, false, false, false, false, false, false, false] rfl rfl (any_of HT_.out (by kernel_rfl)) (fun _ _ _ h => h) (Or.inl ⟨by rfl, ?_⟩) ?_ ?_
                  rotate_left
                  · intro w'
                    go_simp
                    with_reducible rfl
                  rotate_left
                  · simp only [Act.put, List.setIfInBounds_toArray, List.set_cons_zero, List.set_cons_succ, i64_w, i32_w]
                    rfl
                  refine pure_ (i := 15) (N := some 32) (v := ?_) (a' := ?_) #[true, true, true, true, true, true, true, true, true, true, true, true, true, true, true, true, false, false, false, false, false, false, false, false, false] rfl rfl (any_of HT_.out (by kernel_rfl)) (fun _ _ _ h => h) (Or.inl ⟨by rfl, ?_⟩) ?_ ?_
                  rotate_left
                  · intro w'
                    go_simp
                    with_reducible rfl
                  rotate_left
                  · simp only [Act.put, List.setIfInBounds_toArray, List.set_cons_zero, List.set_cons_succ, i64_w, i32_w]
                    rfl
                  refine pure_ (i := 17) (N := some 34) (v := ?_) (a' := ?_) #[true, true, true, true, true, true, true, true, true, true, true, true, true, true, true, true, false, true, false, false, false, false, false, false, false] rfl rfl (any_of HT_.out (by kernel_rfl)) (fun _ _ _ h => h) (Or.inl ⟨by rfl, ?_⟩) ?_ ?_
                  rotate_left
                  · intro w'
                    go_simp
                    with_reducible rfl
                  rotate_left
                  · simp only [Act.put, List.setIfInBounds_toArray, List.set_cons_zero, List.set_cons_succ, i64_w, i32_w]
                    rfl
                  refine pure_ (i := 18) (N := some 35) (v := ?_) (a' := ?_) #[true, true, true, true, true, true, true, true, true, true, true, true, true, true, true, true, false, true, true, false, false, false, false, false, false] rfl rfl (any_of HT_.out (by kernel_rfl)) (fun _ _ _ h => h) (Or.inl ⟨by rfl, ?_⟩) ?_ ?_
                  rotate_left
                  · intro w'
                    go_simp
                    with_reducible rfl
                  rotate_left
                  · simp only [Act.put, List.setIfInBounds_toArray, List.set_cons_zero, List.set_cons_succ, i64_w, i32_w]
                    rfl
                  refine pure_ (i := 19) (N := some 36) (v := ?_) (a' := ?_) #[true, true, true, true, true, true, true, true, true, true, true, true, true, true, true, true, false, true, true, true, false, false, false, false, false] rfl rfl (any_of HT_.out (by kernel_rfl)) (fun _ _ _ h => h) (Or.inl ⟨by rfl, ?_⟩) ?_ ?_
                  rotate_left
                  · intro w'
                    go_simp
                    with_reducible rfl
                  rotate_left
                  · simp only [Act.put, List.setIfInBounds_toArray, List.set_cons_zero, List.set_cons_succ, i64_w, i32_w]
                    rfl
                  refine pure_ (i := 20) (N := some 37) (v := ?_) (a' := ?_) #[true, true, true, true, true, true, true, true, true, true, true, true, true, true, true, true, false, true, true, true, true, false, false, false, false] rfl rfl (any_of HT_.out (by kernel_rfl)) (fun _ _ _ h => h) (Or.inl ⟨by rfl, ?_⟩) ?_ ?_
                  rotate_left
                  · intro w'
                    go_simp
                    with_reducible rfl
                  rotate_left
                  · simp only [Act.put, List.setIfInBounds_toArray, List.set_cons_zero, List.set_cons_succ, i64_w, i32_w]
                    rfl
                  refine take_ (i := 16) (N := some 33) (v := ?_) (a' := ?_) #[true, true, true, true, true, true, true, true, true, true, true, true, true, true, true, true, true, true, true, true, true, false, false, false, false] rfl rfl (take_ofW HT_.out HW_.out (by kernel_rfl)) (fun _ _ _ h => h) (Or.inl ⟨by rfl, ?_⟩) hHeld ?_ ?_
                  rotate_left
                  · rintro w' ⟨s0, s1, s2, s3, s4, s5, s6, s7, s8, s9, s10, s11, s12, s13, s14, s15, s16, s17, s18, s19, s20, s21, s22, s23, s24, s25, s26, s27, s28, s29, s30, s31, s32, s33, s34, s35, s36, s37, s38, s39, s40, s41, s42, s43, s44, s45, s46, s47⟩
                    go_simp
                    with_reducible rfl
                  rotate_left
                  · simp only [Act.put, List.setIfInBounds_toArray, List.set_cons_zero, List.set_cons_succ, i64_w, i32_w]
                    rfl
                  refine take_ (i := 21) (N := some 38) (v := ?_) (a' := ?_) #[true, true, true, true, true, true, true, true, true, true, true, true, true, true, true, true, true, true, true, true, true, true, false, false, false] rfl rfl (take_ofW HT_.out HW_.out (by kernel_rfl)) (fun _ _ _ h => h) (Or.inl ⟨by rfl, ?_⟩) hHeld ?_ ?_
                  rotate_left
                  · rintro w' ⟨s0, s1, s2, s3, s4, s5, s6, s7, s8, s9, s10, s11, s12, s13, s14, s15, s16, s17, s18, s19, s20, s21, s22, s23, s24, s25, s26, s27, s28, s29, s30, s31, s32, s33, s34, s35, s36, s37, s38, s39, s40, s41, s42, s43, s44, s45, s46, s47⟩
                    go_simp
                    with_reducible rfl
                  rotate_left
                  · simp only [Act.put, List.setIfInBounds_toArray, List.set_cons_zero, List.set_cons_succ, i64_w, i32_w]
                    rfl
                  refine one_ (i := 22) (N := some 39) #[true, true, true, true, true, true, true, true, true, true, true, true, true, true, true, true, true, true, true, true, true, true, true, false, false] rfl rfl (one_of HT_.out (by kernel_rfl)) (by decide) (fun K hK => ?_)
                  refine goes_ Try.func17 (by kernel_rfl) rfl #[.agg #[.int .i64 ((rd_T49 l0 x5_1).f1.f0), .int .i64 ((rd_T49 l0 x5_1).f1.f1), .int .i64 ((rd_T49 l0 x5_1).f1.f2), .int .i64 ((rd_T49 l0 x5_1).f1.f3), .int .i64 ((rd_T49 l0 x5_1).f1.f4), .int .i64 ((rd_T49 l0 x5_1).f1.f5), .int .i64 ((rd_T49 l0 x5_1).f1.f6), .string ((rd_T49 l0 x5_1).f1.f7), .string ((rd_T49 l0 x5_1).f1.f8), .slice A185_10 ((rd_T49 l0 x5_1).f1.f9).length c185_10, .slice A185_11 ((rd_T49 l0 x5_1).f1.f10).length c185_11], .agg #[.int .i64 ((rd_T49 l1 x5_1).f1.f0), .int .i64 ((rd_T49 l1 x5_1).f1.f1), .int .i64 ((rd_T49 l1 x5_1).f1.f2), .int .i64 ((rd_T49 l1 x5_1).f1.f3), .int .i64 ((rd_T49 l1 x5_1).f1.f4), .int .i64 ((rd_T49 l1 x5_1).f1.f5), .int .i64 ((rd_T49 l1 x5_1).f1.f6), .string ((rd_T49 l1 x5_1).f1.f7), .string ((rd_T49 l1 x5_1).f1.f8), .slice A186_10 ((rd_T49 l1 x5_1).f1.f9).length c186_10, .slice A186_11 ((rd_T49 l1 x5_1).f1.f10).length c186_11]] (by rfl) rfl rfl (by (try simp only [List.map_toArray, List.map_cons, List.map_nil]); first | done | rfl | (simp only [List.length_drop, List.length_take]; rfl)) ?_
                  with_reducible refine (careenref04_Same.calls ((rd_T49 l0 x5_1).f1.f0) ((rd_T49 l0 x5_1).f1.f1) ((rd_T49 l0 x5_1).f1.f2) ((rd_T49 l0 x5_1).f1.f3) ((rd_T49 l0 x5_1).f1.f4) ((rd_T49 l0 x5_1).f1.f5) ((rd_T49 l0 x5_1).f1.f6) ((rd_T49 l0 x5_1).f1.f7) ((rd_T49 l0 x5_1).f1.f8) _ _ ((rd_T49 l0 x5_1).f1.f9) _ _ ((rd_T49 l0 x5_1).f1.f10) ((rd_T49 l1 x5_1).f1.f0) ((rd_T49 l1 x5_1).f1.f1) ((rd_T49 l1 x5_1).f1.f2) ((rd_T49 l1 x5_1).f1.f3) ((rd_T49 l1 x5_1).f1.f4) ((rd_T49 l1 x5_1).f1.f5) ((rd_T49 l1 x5_1).f1.f6) ((rd_T49 l1 x5_1).f1.f7) ((rd_T49 l1 x5_1).f1.f8) _ _ ((rd_T49 l1 x5_1).f1.f9) _ _ ((rd_T49 l1 x5_1).f1.f10) false _ ?side1 ?side2 ?side3 ?side4 ?side5 ?side6 ?side7 ?side8 A8.out).mono ?_
                  (case side1 => repeat (first | exact (Kd.C_below HR187_10.out HB.out) | (with_reducible refine Kd.C_alloc ?_ _) | (with_reducible refine Kd.C_drewN ?_ _) | (with_reducible refine Kd.C_drew ?_)))
                  (case side2 => exact HC187_10.out)
                  (case side3 => repeat (first | exact (Kd.C_below HR187_11.out HB.out) | (with_reducible refine Kd.C_alloc ?_ _) | (with_reducible refine Kd.C_drewN ?_ _) | (with_reducible refine Kd.C_drew ?_)))
                  (case side4 => exact HC187_11.out)
                  (case side5 => repeat (first | exact (Kd.C_below HR188_10.out HB.out) | (with_reducible refine Kd.C_alloc ?_ _) | (with_reducible refine Kd.C_drewN ?_ _) | (with_reducible refine Kd.C_drew ?_)))
                  (case side6 => exact HC188_10.out)
                  (case side7 => repeat (first | exact (Kd.C_below HR188_11.out HB.out) | (with_reducible refine Kd.C_alloc ?_ _) | (with_reducible refine Kd.C_drewN ?_ _) | (with_reducible refine Kd.C_drew ?_)))
                  (case side8 => exact HC188_11.out)
                  rintro e w13 ⟨rfl, hb⟩
                  refine ⟨_, rfl, ?_⟩
                  have n0_ := Aside0.mk (below_step (by repeat (first | (with_reducible first | exact HB.out | apply below_alloc | apply pw_below_drewN | apply below_drew1) | exact HB.out)) hb)
                  clear HB
                  have HB := n0_
                  clear n0_
                  (try clear hb)
                  (try clear hb2)
                  (try clear hk)
                  (try clear hi)
                  refine hK.out _ _ ⟨((HB.out.cell (World.block_lt_of_cell? w _ hw185_0)).trans hw185_0), ((HB.out.cell (World.block_lt_of_cell? w _ hw185_1)).trans hw185_1), ((HB.out.cell (World.block_lt_of_cell? w _ hw185_2)).trans hw185_2), ((HB.out.cell (World.block_lt_of_cell? w _ hw185_3)).trans hw185_3), ((HB.out.cell (World.block_lt_of_cell? w _ hw185_4)).trans hw185_4), ((HB.out.cell (World.block_lt_of_cell? w _ hw185_5)).trans hw185_5), ((HB.out.cell (World.block_lt_of_cell? w _ hw185_6)).trans hw185_6), ((HB.out.cell (World.block_lt_of_cell? w _ hw185_7)).trans hw185_7), ((HB.out.cell (World.block_lt_of_cell? w _ hw185_8)).trans hw185_8), ((HB.out.cell (World.block_lt_of_cell? w _ hw185_9)).trans hw185_9), ((HB.out.cell (World.block_lt_of_cell? w _ hw185_10)).trans hw185_10), ((HB.out.cell (World.block_lt_of_cell? w _ hw185_11)).trans hw185_11), ((HB.out.cell (World.block_lt_of_cell? w _ hw186_0)).trans hw186_0), ((HB.out.cell (World.block_lt_of_cell? w _ hw186_1)).trans hw186_1), ((HB.out.cell (World.block_lt_of_cell? w _ hw186_2)).trans hw186_2), ((HB.out.cell (World.block_lt_of_cell? w _ hw186_3)).trans hw186_3), ((HB.out.cell (World.block_lt_of_cell? w _ hw186_4)).trans hw186_4), ((HB.out.cell (World.block_lt_of_cell? w _ hw186_5)).trans hw186_5), ((HB.out.cell (World.block_lt_of_cell? w _ hw186_6)).trans hw186_6), ((HB.out.cell (World.block_lt_of_cell? w _ hw186_7)).trans hw186_7), ((HB.out.cell (World.block_lt_of_cell? w _ hw186_8)).trans hw186_8), ((HB.out.cell (World.block_lt_of_cell? w _ hw186_9)).trans hw186_9), ((HB.out.cell (World.block_lt_of_cell? w _ hw186_10)).trans hw186_10), ((HB.out.cell (World.block_lt_of_cell? w _ hw186_11)).trans hw186_11), ((HB.out.cell (World.block_lt_of_cell? w _ hw187_0)).trans hw187_0), ((HB.out.cell (World.block_lt_of_cell? w _ hw187_1)).trans hw187_1), ((HB.out.cell (World.block_lt_of_cell? w _ hw187_2)).trans hw187_2), ((HB.out.cell (World.block_lt_of_cell? w _ hw187_3)).trans hw187_3), ((HB.out.cell (World.block_lt_of_cell? w _ hw187_4)).trans hw187_4), ((HB.out.cell (World.block_lt_of_cell? w _ hw187_5)).trans hw187_5), ((HB.out.cell (World.block_lt_of_cell? w _ hw187_6)).trans hw187_6), ((HB.out.cell (World.block_lt_of_cell? w _ hw187_7)).trans hw187_7), ((HB.out.cell (World.block_lt_of_cell? w _ hw187_8)).trans hw187_8), ((HB.out.cell (World.block_lt_of_cell? w _ hw187_9)).trans hw187_9), ((HB.out.cell (World.block_lt_of_cell? w _ hw187_10)).trans hw187_10), ((HB.out.cell (World.block_lt_of_cell? w _ hw187_11)).trans hw187_11), ((HB.out.cell (World.block_lt_of_cell? w _ hw188_0)).trans hw188_0), ((HB.out.cell (World.block_lt_of_cell? w _ hw188_1)).trans hw188_1), ((HB.out.cell (World.block_lt_of_cell? w _ hw188_2)).trans hw188_2), ((HB.out.cell (World.block_lt_of_cell? w _ hw188_3)).trans hw188_3), ((HB.out.cell (World.block_lt_of_cell? w _ hw188_4)).trans hw188_4), ((HB.out.cell (World.block_lt_of_cell? w _ hw188_5)).trans hw188_5), ((HB.out.cell (World.block_lt_of_cell? w _ hw188_6)).trans hw188_6), ((HB.out.cell (World.block_lt_of_cell? w _ hw188_7)).trans hw188_7), ((HB.out.cell (World.block_lt_of_cell? w _ hw188_8)).trans hw188_8), ((HB.out.cell (World.block_lt_of_cell? w _ hw188_9)).trans hw188_9), ((HB.out.cell (World.block_lt_of_cell? w _ hw188_10)).trans hw188_10), ((HB.out.cell (World.block_lt_of_cell? w _ hw188_11)).trans hw188_11)⟩ (fun hHeld => ?_)
                  clear hK K
                  refine norm_ (a' := ?_) ?_ ?_
                  rotate_left
                  · show Act.put _ (some 39) _ = _
                    simp only [Act.put, List.setIfInBounds_toArray, List.set_cons_zero, List.set_cons_succ, i64_w, i32_w]
                    rfl
                  refine pure_ (i := 23) (N := some 40) (v := ?_) (a' := ?_) #[true, true, true, true, true, true, true, true, true, true, true, true, true, true, true, true, true, true, true, true, true, true, true, true, false] rfl rfl (any_of HT_.out (by kernel_rfl)) (fun _ _ _ h => h) (Or.inl ⟨by rfl, ?_⟩) ?_ ?_
                  rotate_left
                  · intro w'
                    go_simp
                    with_reducible rfl
                  rotate_left
                  · simp only [Act.put, List.setIfInBounds_toArray, List.set_cons_zero, List.set_cons_succ, i64_w, i32_w]
                    rfl
                  refine pure_ (i := 24) (N := some 41) (v := ?_) (a' := ?_) #[true, true, true, true, true, true, true, true, true, true, true, true, true, true, true, true, true, true, true, true, true, true, true, true, true] rfl rfl (any_of HT_.out (by kernel_rfl)) (fun _ _ _ h => h) (Or.inl ⟨by rfl, ?_⟩) ?_ ?_
                  rotate_left
                  · intro w'
                    go_simp
                    with_reducible rfl
                  rotate_left
                  · simp only [Act.put, List.setIfInBounds_toArray, List.set_cons_zero, List.set_cons_succ, i64_w, i32_w]
                    rfl
                  refine done_ (done_of HT_.out (by kernel_rfl)) ?_
                  try go_wp2
                  go_ret
                  exact ⟨by first | rfl | (simp [errW_none, errW_some] <;> rfl) | (simp [*, errW_none, errW_some] <;> rfl), by repeat (first | (with_reducible first | exact HB.out | apply below_alloc | apply pw_below_drewN | apply below_drew1) | exact HB.out)⟩
              · rw [if_neg c7] at H
                have c7b0 : (((rd_T49 l0 x5_1).f0) == ((rd_T49 l1 x5_1).f0)) = false := beq_eq_false_iff_ne.mpr c7
                have c7b1 : (((rd_T49 l0 x5_1).f0) != ((rd_T49 l1 x5_1).f0)) = true := bne_iff_ne.mpr c7
                obtain rfl := Option.some.inj H
                try go_wp2
                have n0_ := Aside0.mk (below_drew1 HB.out)
                clear HB
                have HB := n0_
                clear n0_
                have p185 : 0 ≤ (x5_1 : Int) := of_decide_eq_true (by first | (with_reducible assumption) | assumption)
                have q185 : x5_1 < (l0.length : Int) := of_decide_eq_true (by first | (with_reducible assumption) | assumption)
                obtain ⟨ad185, A185_10, c185_10, A185_11, c185_11, e185, hx185_0, hx185_1, hx185_2, hx185_3, hx185_4, hx185_5, hx185_6, hx185_7, hx185_8, hx185_9, hx185_10, hx185_11, hl185_10, hi185_10, hl185_11, hi185_11⟩ := at_T49 HR0.out x5_1 p185 q185
                have hw185_11 := hx185_11
                have hw185_10 := hx185_10
                have hw185_9 := hx185_9
                have hw185_8 := hx185_8
                have hw185_7 := hx185_7
                have hw185_6 := hx185_6
                have hw185_5 := hx185_5
                have hw185_4 := hx185_4
                have hw185_3 := hx185_3
                have hw185_2 := hx185_2
                have hw185_1 := hx185_1
                have hw185_0 := hx185_0
                cases e185
                replace hx185_0 := (HB.out.cell (World.block_lt_of_cell? w _ hx185_0)).trans hx185_0
                replace hx185_1 := (HB.out.cell (World.block_lt_of_cell? w _ hx185_1)).trans hx185_1
                replace hx185_2 := (HB.out.cell (World.block_lt_of_cell? w _ hx185_2)).trans hx185_2
                replace hx185_3 := (HB.out.cell (World.block_lt_of_cell? w _ hx185_3)).trans hx185_3
                replace hx185_4 := (HB.out.cell (World.block_lt_of_cell? w _ hx185_4)).trans hx185_4
                replace hx185_5 := (HB.out.cell (World.block_lt_of_cell? w _ hx185_5)).trans hx185_5
                replace hx185_6 := (HB.out.cell (World.block_lt_of_cell? w _ hx185_6)).trans hx185_6
                replace hx185_7 := (HB.out.cell (World.block_lt_of_cell? w _ hx185_7)).trans hx185_7
                replace hx185_8 := (HB.out.cell (World.block_lt_of_cell? w _ hx185_8)).trans hx185_8
                replace hx185_9 := (HB.out.cell (World.block_lt_of_cell? w _ hx185_9)).trans hx185_9
                replace hx185_10 := (HB.out.cell (World.block_lt_of_cell? w _ hx185_10)).trans hx185_10
                replace hx185_11 := (HB.out.cell (World.block_lt_of_cell? w _ hx185_11)).trans hx185_11
                have HR185_10 := Aside0.mk hi185_10
                have HC185_10 := Aside0.mk hl185_10
                clear hi185_10 hl185_10
                have HR185_11 := Aside0.mk hi185_11
                have HC185_11 := Aside0.mk hl185_11
                clear hi185_11 hl185_11
                replace p185 := eq_true p185
                replace q185 := eq_true q185
                have p186 : 0 ≤ (x5_1 : Int) := of_decide_eq_true (by first | (with_reducible assumption) | assumption)
                have q186 : x5_1 < (l1.length : Int) := of_decide_eq_true (by first | (with_reducible assumption) | assumption)
                obtain ⟨ad186, A186_10, c186_10, A186_11, c186_11, e186, hx186_0, hx186_1, hx186_2, hx186_3, hx186_4, hx186_5, hx186_6, hx186_7, hx186_8, hx186_9, hx186_10, hx186_11, hl186_10, hi186_10, hl186_11, hi186_11⟩ := at_T49 HR1.out x5_1 p186 q186
                have hw186_11 := hx186_11
                have hw186_10 := hx186_10
                have hw186_9 := hx186_9
                have hw186_8 := hx186_8
                have hw186_7 := hx186_7
                have hw186_6 := hx186_6
                have hw186_5 := hx186_5
                have hw186_4 := hx186_4
                have hw186_3 := hx186_3
                have hw186_2 := hx186_2
                have hw186_1 := hx186_1
                have hw186_0 := hx186_0
                cases e186
                replace hx186_0 := (HB.out.cell (World.block_lt_of_cell? w _ hx186_0)).trans hx186_0
                replace hx186_1 := (HB.out.cell (World.block_lt_of_cell? w _ hx186_1)).trans hx186_1
                replace hx186_2 := (HB.out.cell (World.block_lt_of_cell? w _ hx186_2)).trans hx186_2
                replace hx186_3 := (HB.out.cell (World.block_lt_of_cell? w _ hx186_3)).trans hx186_3
                replace hx186_4 := (HB.out.cell (World.block_lt_of_cell? w _ hx186_4)).trans hx186_4
                replace hx186_5 := (HB.out.cell (World.block_lt_of_cell? w _ hx186_5)).trans hx186_5
                replace hx186_6 := (HB.out.cell (World.block_lt_of_cell? w _ hx186_6)).trans hx186_6
                replace hx186_7 := (HB.out.cell (World.block_lt_of_cell? w _ hx186_7)).trans hx186_7
                replace hx186_8 := (HB.out.cell (World.block_lt_of_cell? w _ hx186_8)).trans hx186_8
                replace hx186_9 := (HB.out.cell (World.block_lt_of_cell? w _ hx186_9)).trans hx186_9
                replace hx186_10 := (HB.out.cell (World.block_lt_of_cell? w _ hx186_10)).trans hx186_10
                replace hx186_11 := (HB.out.cell (World.block_lt_of_cell? w _ hx186_11)).trans hx186_11
                have HR186_10 := Aside0.mk hi186_10
                have HC186_10 := Aside0.mk hl186_10
                clear hi186_10 hl186_10
                have HR186_11 := Aside0.mk hi186_11
                have HC186_11 := Aside0.mk hl186_11
                clear hi186_11 hl186_11
                replace p186 := eq_true p186
                replace q186 := eq_true q186
                refine start_ (n := 25) (S := fun w' => w'.cell? (ad185.add ((x5_1).toNat * 12)) = some (.int .i64 ((rd_T49 l0 x5_1).f0)) ∧ w'.cell? ⟨(ad185.add ((x5_1).toNat * 12)).block, (ad185.add ((x5_1).toNat * 12)).off + 1, none⟩ = some (.int .i64 ((rd_T49 l0 x5_1).f1.f0)) ∧ w'.cell? ⟨(ad185.add ((x5_1).toNat * 12)).block, (ad185.add ((x5_1).toNat * 12)).off + 2, none⟩ = some (.int .i64 ((rd_T49 l0 x5_1).f1.f1)) ∧ w'.cell? ⟨(ad185.add ((x5_1).toNat * 12)).block, (ad185.add ((x5_1).toNat * 12)).off + 3, none⟩ = some (.int .i64 ((rd_T49 l0 x5_1).f1.f2)) ∧ w'.cell? ⟨(ad185.add ((x5_1).toNat * 12)).block, (ad185.add ((x5_1).toNat * 12)).off + 4, none⟩ = some (.int .i64 ((rd_T49 l0 x5_1).f1.f3)) ∧ w'.cell? ⟨(ad185.add ((x5_1).toNat * 12)).block, (ad185.add ((x5_1).toNat * 12)).off + 5, none⟩ = some (.int .i64 ((rd_T49 l0 x5_1).f1.f4)) ∧ w'.cell? ⟨(ad185.add ((x5_1).toNat * 12)).block, (ad185.add ((x5_1).toNat * 12)).off + 6, none⟩ = some (.int .i64 ((rd_T49 l0 x5_1).f1.f5)) ∧ w'.cell? ⟨(ad185.add ((x5_1).toNat * 12)).block, (ad185.add ((x5_1).toNat * 12)).off + 7, none⟩ = some (.int .i64 ((rd_T49 l0 x5_1).f1.f6)) ∧ w'.cell? ⟨(ad185.add ((x5_1).toNat * 12)).block, (ad185.add ((x5_1).toNat * 12)).off + 8, none⟩ = some (.string ((rd_T49 l0 x5_1).f1.f7)) ∧ w'.cell? ⟨(ad185.add ((x5_1).toNat * 12)).block, (ad185.add ((x5_1).toNat * 12)).off + 9, none⟩ = some (.string ((rd_T49 l0 x5_1).f1.f8)) ∧ w'.cell? ⟨(ad185.add ((x5_1).toNat * 12)).block, (ad185.add ((x5_1).toNat * 12)).off + 10, none⟩ = some (.slice A185_10 ((rd_T49 l0 x5_1).f1.f9).length c185_10) ∧ w'.cell? ⟨(ad185.add ((x5_1).toNat * 12)).block, (ad185.add ((x5_1).toNat * 12)).off + 11, none⟩ = some (.slice A185_11 ((rd_T49 l0 x5_1).f1.f10).length c185_11) ∧ w'.cell? (ad186.add ((x5_1).toNat * 12)) = some (.int .i64 ((rd_T49 l1 x5_1).f0)) ∧ w'.cell? ⟨(ad186.add ((x5_1).toNat * 12)).block, (ad186.add ((x5_1).toNat * 12)).off + 1, none⟩ = some (.int .i64 ((rd_T49 l1 x5_1).f1.f0)) ∧ w'.cell? ⟨(ad186.add ((x5_1).toNat * 12)).block, (ad186.add ((x5_1).toNat * 12)).off + 2, none⟩ = some (.int .i64 ((rd_T49 l1 x5_1).f1.f1)) ∧ w'.cell? ⟨(ad186.add ((x5_1).toNat * 12)).block, (ad186.add ((x5_1).toNat * 12)).off + 3, none⟩ = some (.int .i64 ((rd_T49 l1 x5_1).f1.f2)) ∧ w'.cell? ⟨(ad186.add ((x5_1).toNat * 12)).block, (ad186.add ((x5_1).toNat * 12)).off + 4, none⟩ = some (.int .i64 ((rd_T49 l1 x5_1).f1.f3)) ∧ w'.cell? ⟨(ad186.add ((x5_1).toNat * 12)).block, (ad186.add ((x5_1).toNat * 12)).off + 5, none⟩ = some (.int .i64 ((rd_T49 l1 x5_1).f1.f4)) ∧ w'.cell? ⟨(ad186.add ((x5_1).toNat * 12)).block, (ad186.add ((x5_1).toNat * 12)).off + 6, none⟩ = some (.int .i64 ((rd_T49 l1 x5_1).f1.f5)) ∧ w'.cell? ⟨(ad186.add ((x5_1).toNat * 12)).block, (ad186.add ((x5_1).toNat * 12)).off + 7, none⟩ = some (.int .i64 ((rd_T49 l1 x5_1).f1.f6)) ∧ w'.cell? ⟨(ad186.add ((x5_1).toNat * 12)).block, (ad186.add ((x5_1).toNat * 12)).off + 8, none⟩ = some (.string ((rd_T49 l1 x5_1).f1.f7)) ∧ w'.cell? ⟨(ad186.add ((x5_1).toNat * 12)).block, (ad186.add ((x5_1).toNat * 12)).off + 9, none⟩ = some (.string ((rd_T49 l1 x5_1).f1.f8)) ∧ w'.cell? ⟨(ad186.add ((x5_1).toNat * 12)).block, (ad186.add ((x5_1).toNat * 12)).off + 10, none⟩ = some (.slice A186_10 ((rd_T49 l1 x5_1).f1.f9).length c186_10) ∧ w'.cell? ⟨(ad186.add ((x5_1).toNat * 12)).block, (ad186.add ((x5_1).toNat * 12)).off + 11, none⟩ = some (.slice A186_11 ((rd_T49 l1 x5_1).f1.f10).length c186_11)) (ds := []) #[false, false, false, false, false, false, false, false, false, false, false, false, false, false, false, false, false, false, false, false, false, false, false, false, false] (by kernel_rfl) rfl rfl ⟨((HB.out.cell (World.block_lt_of_cell? w _ hw185_0)).trans hw185_0), ((HB.out.cell (World.block_lt_of_cell? w _ hw185_1)).trans hw185_1), ((HB.out.cell (World.block_lt_of_cell? w _ hw185_2)).trans hw185_2), ((HB.out.cell (World.block_lt_of_cell? w _ hw185_3)).trans hw185_3), ((HB.out.cell (World.block_lt_of_cell? w _ hw185_4)).trans hw185_4), ((HB.out.cell (World.block_lt_of_cell? w _ hw185_5)).trans hw185_5), ((HB.out.cell (World.block_lt_of_cell? w _ hw185_6)).trans hw185_6), ((HB.out.cell (World.block_lt_of_cell? w _ hw185_7)).trans hw185_7), ((HB.out.cell (World.block_lt_of_cell? w _ hw185_8)).trans hw185_8), ((HB.out.cell (World.block_lt_of_cell? w _ hw185_9)).trans hw185_9), ((HB.out.cell (World.block_lt_of_cell? w _ hw185_10)).trans hw185_10), ((HB.out.cell (World.block_lt_of_cell? w _ hw185_11)).trans hw185_11), ((HB.out.cell (World.block_lt_of_cell? w _ hw186_0)).trans hw186_0), ((HB.out.cell (World.block_lt_of_cell? w _ hw186_1)).trans hw186_1), ((HB.out.cell (World.block_lt_of_cell? w _ hw186_2)).trans hw186_2), ((HB.out.cell (World.block_lt_of_cell? w _ hw186_3)).trans hw186_3), ((HB.out.cell (World.block_lt_of_cell? w _ hw186_4)).trans hw186_4), ((HB.out.cell (World.block_lt_of_cell? w _ hw186_5)).trans hw186_5), ((HB.out.cell (World.block_lt_of_cell? w _ hw186_6)).trans hw186_6), ((HB.out.cell (World.block_lt_of_cell? w _ hw186_7)).trans hw186_7), ((HB.out.cell (World.block_lt_of_cell? w _ hw186_8)).trans hw186_8), ((HB.out.cell (World.block_lt_of_cell? w _ hw186_9)).trans hw186_9), ((HB.out.cell (World.block_lt_of_cell? w _ hw186_10)).trans hw186_10), ((HB.out.cell (World.block_lt_of_cell? w _ hw186_11)).trans hw186_11)⟩ (fun hHeld => ?_); refine with_tabW careenref04_SameAll.tab6 careenref04_SameAll.bits6 (fun HT_ HW_ => ?_)
                generalize wr.drew = w14 at HB HR185_10 HR185_11 HR186_10 HR186_11 hx185_0 hx185_1 hx185_10 hx185_11 hx185_2 hx185_3 hx185_4 hx185_5 hx185_6 hx185_7 hx185_8 hx185_9 hx186_0 hx186_1 hx186_10 hx186_11 hx186_2 hx186_3 hx186_4 hx186_5 hx186_6 hx186_7 hx186_8 hx186_9 hHeld ⊢
                refine pure_ (i := 0) (N := some 17) (v := ?_) (a' := ?_) #[true, false, false, false, false, false, false, false, false, false, false, false, false, false, false, false, false, false, false, false, false, false, false, false, false] rfl rfl (any_of HT_.out (by kernel_rfl)) (fun _ _ _ h => h) (Or.inl ⟨by rfl, ?_⟩) ?_ ?_
                rotate_left
                · intro w'
                  go_simp
                  with_reducible rfl
                rotate_left
                · simp only [Act.put, List.setIfInBounds_toArray, List.set_cons_zero, List.set_cons_succ, i64_w, i32_w]
                  rfl
                refine pure_ (i := 1) (N := some 18) (v := ?_) (a' := ?_) #[true, true, false, false, false, false, false, false, false, false, false, false, false, false, false, false, false, false, false, false, false, false, false, false, false] rfl rfl (any_of HT_.out (by kernel_rfl)) (fun _ _ _ h => h) (Or.inl ⟨by rfl, ?_⟩) ?_ ?_
                rotate_left
                · intro w'
                  go_simp
                  with_reducible rfl
                rotate_left
                · simp only [Act.put, List.setIfInBounds_toArray, List.set_cons_zero, List.set_cons_succ, i64_w, i32_w]
                  rfl
                refine pure_ (i := 2) (N := some 19) (v := ?_) (a' := ?_) #[true, true, true, false, false, false, false, false, false, false, false, false, false, false, false, false, false, false, false, false, false, false, false, false, false] rfl rfl (any_of HT_.out (by kernel_rfl)) (fun _ _ _ h => h) (Or.inl ⟨by rfl, ?_⟩) ?_ ?_
                rotate_left
                · intro w'
                  go_simp
                  with_reducible rfl
                rotate_left
                · simp only [Act.put, List.setIfInBounds_toArray, List.set_cons_zero, List.set_cons_succ, i64_w, i32_w]
                  rfl
                refine pure_ (i := 3) (N := some 20) (v := ?_) (a' := ?_) #[true, true, true, true, false, false, false, false, false, false, false, false, false, false, false, false, false, false, false, false, false, false, false, false, false] rfl rfl (any_of HT_.out (by kernel_rfl)) (fun _ _ _ h => h) (Or.inl ⟨by rfl, ?_⟩) ?_ ?_
                rotate_left
                · intro w'
                  go_simp
                  with_reducible rfl
                rotate_left
                · simp only [Act.put, List.setIfInBounds_toArray, List.set_cons_zero, List.set_cons_succ, i64_w, i32_w]
                  rfl
                refine pure_ (i := 5) (N := some 22) (v := ?_) (a' := ?_) #[true, true, true, true, false, true, false, false, false, false, false, false, false, false, false, false, false, false, false, false, false, false, false, false, false] rfl rfl (any_of HT_.out (by kernel_rfl)) (fun _ _ _ h => h) (Or.inl ⟨by rfl, ?_⟩) ?_ ?_
                rotate_left
                · intro w'
                  go_simp
                  with_reducible rfl
                rotate_left
                · simp only [Act.put, List.setIfInBounds_toArray, List.set_cons_zero, List.set_cons_succ, i64_w, i32_w]
                  rfl
                refine pure_ (i := 6) (N := some 23) (v := ?_) (a' := ?_) #[true, true, true, true, false, true, true, false, false, false, false, false, false, false, false, false, false, false, false, false, false, false, false, false, false] rfl rfl (any_of HT_.out (by kernel_rfl)) (fun _ _ _ h => h) (Or.inl ⟨by rfl, ?_⟩) ?_ ?_
                rotate_left
                · intro w'
                  go_simp
                  with_reducible rfl
                rotate_left
                · simp only [Act.put, List.setIfInBounds_toArray, List.set_cons_zero, List.set_cons_succ, i64_w, i32_w]
                  rfl
                refine pure_ (i := 7) (N := some 24) (v := ?_) (a' := ?_) #[true, true, true, true, false, true, true, true, false, false, false, false, false, false, false, false, false, false, false, false, false, false, false, false, false] rfl rfl (any_of HT_.out (by kernel_rfl)) (fun _ _ _ h => h) (Or.inl ⟨by rfl, ?_⟩) ?_ ?_
                rotate_left
                · intro w'
                  go_simp
                  with_reducible rfl
                rotate_left
                · simp only [Act.put, List.setIfInBounds_toArray, List.set_cons_zero, List.set_cons_succ, i64_w, i32_w]
                  rfl
                refine pure_ (i := 8) (N := some 25) (v := ?_) (a' := ?_) #[true, true, true, true, false, true, true, true, true, false, false, false, false, false, false, false, false, false, false, false, false, false, false, false, false] rfl rfl (any_of HT_.out (by kernel_rfl)) (fun _ _ _ h => h) (Or.inl ⟨by rfl, ?_⟩) ?_ ?_
                rotate_left
                · intro w'
                  go_simp
                  with_reducible rfl
                rotate_left
                · simp only [Act.put, List.setIfInBounds_toArray, List.set_cons_zero, List.set_cons_succ, i64_w, i32_w]
                  rfl
                refine take_ (i := 4) (N := some 21) (v := ?_) (a' := ?_) #[true, true, true, true, true, true, true, true, true, false, false, false, false, false, false, false, false, false, false, false, false, false, false, false, false] rfl rfl (take_ofW HT_.out HW_.out (by kernel_rfl)) (fun _ _ _ h => h) (Or.inl ⟨by rfl, ?_⟩) hHeld ?_ ?_
                rotate_left
                · rintro w' ⟨s0, s1, s2, s3, s4, s5, s6, s7, s8, s9, s10, s11, s12, s13, s14, s15, s16, s17, s18, s19, s20, s21, s22, s23⟩
                  go_simp
                  with_reducible rfl
                rotate_left
                · simp only [Act.put, List.setIfInBounds_toArray, List.set_cons_zero, List.set_cons_succ, i64_w, i32_w]
                  rfl
                refine take_ (i := 9) (N := some 26) (v := ?_) (a' := ?_) #[true, true, true, true, true, true, true, true, true, true, false, false, false, false, false, false, false, false, false, false, false, false, false, false, false] rfl rfl (take_ofW HT_.out HW_.out (by kernel_rfl)) (fun _ _ _ h => h) (Or.inl ⟨by rfl, ?_⟩) hHeld ?_ ?_
                rotate_left
                · rintro w' ⟨s0, s1, s2, s3, s4, s5, s6, s7, s8, s9, s10, s11, s12, s13, s14, s15, s16, s17, s18, s19, s20, s21, s22, s23⟩
                  go_simp
                  with_reducible rfl
                rotate_left
                · simp only [Act.put, List.setIfInBounds_toArray, List.set_cons_zero, List.set_cons_succ, i64_w, i32_w]
                  rfl
                refine pure_ (i := 10) (N := some 27) (v := ?_) (a' := ?_) #[true, true, true, true, true, true, true, true, true, true, true, false, false, false, false, false, false, false, false, false, false, false, false, false, false] rfl rfl (any_of HT_.out (by kernel_rfl)) (fun _ _ _ h => h) (Or.inl ⟨by rfl, ?_⟩) ?_ ?_
                rotate_left
                · intro w'
                  go_simp
                  with_reducible rfl
                rotate_left
                · simp only [Act.put, List.setIfInBounds_toArray, List.set_cons_zero, List.set_cons_succ, i64_w, i32_w]
                  rfl
                refine pure_ (i := 11) (N := some 28) (v := ?_) (a' := ?_) #[true, true, true, true, true, true, true, true, true, true, true, true, false, false, false, false, false, false, false, false, false, false, false, false, false] rfl rfl (any_of HT_.out (by kernel_rfl)) (fun _ _ _ h => h) (Or.inl ⟨by rfl, ?_⟩) ?_ ?_
                rotate_left
                · intro w'
                  go_simp
                  with_reducible rfl
                rotate_left
                · simp only [Act.put, List.setIfInBounds_toArray, List.set_cons_zero, List.set_cons_succ, i64_w, i32_w]
                  rfl
                refine pure_ (i := 12) (N := some 29) (v := undef) (a' := ?_) #[true, true, true, true, true, true, true, true, true, true, true, true, true, false, false, false, false, false, false, false, false, false, false, false, false] rfl rfl (any_of HT_.out (by kernel_rfl)) (fun _ _ _ h => h) (Or.inr ⟨by rfl, rfl⟩) ?_ ?_
                rotate_left
                · simp only [Act.put, List.setIfInBounds_toArray, List.set_cons_zero, List.set_cons_succ, i64_w, i32_w]
                  rfl
                refine pure_ (i := 13) (N := some 30) (v := undef) (a' := ?_) #[true, true, true, true, true, true, true, true, true, true, true, true, true, true, false, false, false, false, false, false, false, false, false, false, false] rfl rfl (any_of HT_.out (by kernel_rfl)) (fun _ _ _ h => h) (Or.inr ⟨by rfl, rfl⟩) ?_ ?_
                rotate_left
                · simp only [Act.put, List.setIfInBounds_toArray, List.set_cons_zero, List.set_cons_succ, i64_w, i32_w]
                  rfl
                refine pure_ (i := 14) (N := some 31) (v := undef) (a' := ?_) #[true, true, true, true, true, true, true, true, true, true, true, true, true, true, true, false, false, false, false, false, false, false, false, false, false] rfl rfl (any_of HT_.out (by kernel_rfl)) (fun _ _ _ h => h) (Or.inr ⟨by rfl, rfl⟩) ?_ ?_
                rotate_left
                · simp only [Act.put, List.setIfInBounds_toArray, List.set_cons_zero, List.set_cons_succ, i64_w, i32_w]
                  rfl
                refine pure_ (i := 15) (N := some 32) (v := undef) (a' := ?_) #[true, true, true, true, true, true, true, true, true, true, true, true, true, true, true, true, false, false, false, false, false, false, false, false, false] rfl rfl (any_of HT_.out (by kernel_rfl)) (fun _ _ _ h => h) (Or.inr ⟨by rfl, rfl⟩) ?_ ?_
                rotate_left
                · simp only [Act.put, List.setIfInBounds_toArray, List.set_cons_zero, List.set_cons_succ, i64_w, i32_w]
                  rfl
                refine pure_ (i := 16) (N := some 33) (v := undef) (a' := ?_) #[true, true, true, true, true, true, true, true, true, true, true, true, true, true, true, true, true, false, false, false, false, false, false, false, false] rfl rfl (any_of HT_.out (by kernel_rfl)) (fun _ _ _ h => h) (Or.inr ⟨by rfl, rfl⟩) ?_ ?_
                rotate_left
                · simp only [Act.put, List.setIfInBounds_toArray, List.set_cons_zero, List.set_cons_succ, i64_w, i32_w]
                  rfl
                refine pure_ (i := 17) (N := some 34) (v := undef) (a' := ?_) #[true, true, true, true, true, true, true, true, true, true, true, true, true, true, true, true, true, true, false, false, false, false, false, false, false] rfl rfl (any_of HT_.out (by kernel_rfl)) (fun _ _ _ h => h) (Or.inr ⟨by rfl, rfl⟩) ?_ ?_
                rotate_left
                · simp only [Act.put, List.setIfInBounds_toArray, List.set_cons_zero, List.set_cons_succ, i64_w, i32_w]
                  rfl
                refine pure_ (i := 18) (N := some 35) (v := undef) (a' := ?_) #[true, true, true, true, true, true, true, true, true, true, true, true, true, true, true, true, true, true, true, false, false, false, false, false, false] rfl rfl (any_of HT_.out (by kernel_rfl)) (fun _ _ _ h => h) (Or.inr ⟨by rfl, rfl⟩) ?_ ?_
                rotate_left
                · simp only [Act.put, List.setIfInBounds_toArray, List.set_cons_zero, List.set_cons_succ, i64_w, i32_w]
                  rfl
                refine pure_ (i := 19) (N := some 36) (v := undef) (a' := ?_) #[true, true, true, true, true, true, true, true, true, true, true, true, true, true, true, true, true, true, true, true, false, false, false, false, false] rfl rfl (any_of HT_.out (by kernel_rfl)) (fun _ _ _ h => h) (Or.inr ⟨by rfl, rfl⟩) ?_ ?_
                rotate_left
                · simp only [Act.put, List.setIfInBounds_toArray, List.set_cons_zero, List.set_cons_succ, i64_w, i32_w]
                  rfl
                refine pure_ (i := 20) (N := some 37) (v := undef) (a' := ?_) #[true, true, true, true, true, true, true, true, true, true, true, true, true, true, true, true, true, true, true, true, true, false, false, false, false] rfl rfl (any_of HT_.out (by kernel_rfl)) (fun _ _ _ h => h) (Or.inr ⟨by rfl, rfl⟩) ?_ ?_
                rotate_left
                · simp only [Act.put, List.setIfInBounds_toArray, List.set_cons_zero, List.set_cons_succ, i64_w, i32_w]
                  rfl
                refine pure_ (i := 21) (N := some 38) (v := undef) (a' := ?_) #[true, true, true, true, true, true, true, true, true, true, true, true, true, true, true, true, true, true, true, true, true, true, false, false, false] rfl rfl (any_of HT_.out (by kernel_rfl)) (fun _ _ _ h => h) (Or.inr ⟨by rfl, rfl⟩) ?_ ?_
                rotate_left
                · simp only [Act.put, List.setIfInBounds_toArray, List.set_cons_zero, List.set_cons_succ, i64_w, i32_w]
                  rfl
                refine pure_ (i := 22) (N := some 39) (v := undef) (a' := ?_) #[true, true, true, true, true, true, true, true, true, true, true, true, true, true, true, true, true, true, true, true, true, true, true, false, false] rfl rfl (any_of HT_.out (by kernel_rfl)) (fun _ _ _ h => h) (Or.inr ⟨by rfl, rfl⟩) ?_ ?_
                rotate_left
                · simp only [Act.put, List.setIfInBounds_toArray, List.set_cons_zero, List.set_cons_succ, i64_w, i32_w]
                  rfl
                refine pure_ (i := 23) (N := some 40) (v := undef) (a' := ?_) #[true, true, true, true, true, true, true, true, true, true, true, true, true, true, true, true, true, true, true, true, true, true, true, true, false] rfl rfl (any_of HT_.out (by kernel_rfl)) (fun _ _ _ h => h) (Or.inr ⟨by rfl, rfl⟩) ?_ ?_
                rotate_left
                · simp only [Act.put, List.setIfInBounds_toArray, List.set_cons_zero, List.set_cons_succ, i64_w, i32_w]
                  rfl
                refine pure_ (i := 24) (N := some 41) (v := ?_) (a' := ?_) #[true, true, true, true, true, true, true, true, true, true, true, true, true, true, true, true, true, true, true, true, true, true, true, true, true] rfl rfl (any_of HT_.out (by kernel_rfl)) (fun _ _ _ h => h) (Or.inl ⟨by rfl, ?_⟩) ?_ ?_
                rotate_left
                · intro w'
                  go_simp
                  with_reducible rfl
                rotate_left
                · simp only [Act.put, List.setIfInBounds_toArray, List.set_cons_zero, List.set_cons_succ, i64_w, i32_w]
                  rfl
                refine done_ (done_of HT_.out (by kernel_rfl)) ?_
                try go_wp2
                go_ret
                exact ⟨by first | rfl | (simp [errW_none, errW_some] <;> rfl) | (simp [*, errW_none, errW_some] <;> rfl), by repeat (first | (with_reducible first | exact HB.out | apply below_alloc | apply pw_below_drewN | apply below_drew1) | exact HB.out)⟩
            · rw [if_neg c6] at H
              exact absurd H (by simp)
          · rw [if_neg c5] at H
            exact absurd H (by simp)
        · rw [if_neg c4] at H
          have c4b0 : decide (x5_1 < (l0.length : Int)) = false := decide_eq_false c4
          clear c4
          obtain rfl := Option.some.inj H
          go_wp2
          go_ret
          exact ⟨by first | rfl | (simp [errW_none, errW_some] <;> rfl) | (simp [*, errW_none, errW_some] <;> rfl), by repeat (first | (with_reducible first | exact HB.out | apply below_alloc | apply pw_below_drewN | apply below_drew1) | exact HB.out)⟩
  · rw [if_neg c3] at H
    have c3b0 : ((l0.length : Int) == (l1.length : Int)) = false := beq_eq_false_iff_ne.mpr c3
    have c3b1 : ((l0.length : Int) != (l1.length : Int)) = true := bne_iff_ne.mpr c3
    have c3b2 : (l0.length == l1.length) = false := by first | simpa using c3 | (simp at c3 ⊢; omega)
    obtain rfl := Option.some.inj H
    go_enter Try.func22, Try.ntmps22
    go_wp2
    go_ret
    exact ⟨by first | rfl | (simp [errW_none, errW_some] <;> rfl) | (simp [*, errW_none, errW_some] <;> rfl), by repeat (first | (with_reducible first | exact HB.out | apply below_alloc | apply pw_below_drewN | apply below_drew1) | exact HB.out)⟩
end Go.Proofs.Ytcfknakmamcinaa.X4r
