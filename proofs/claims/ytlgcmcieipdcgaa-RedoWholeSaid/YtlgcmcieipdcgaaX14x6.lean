-- Written by this session's xprint.py (the kit's print, with contracts proved by hand).
import Derived.Test.YtlgcmcieipdcgaaX14x0
import Derived.Test.YtlgcmcieipdcgaaX14x1
import Derived.Test.YtlgcmcieipdcgaaX14x2
import Derived.Test.YtlgcmcieipdcgaaX14x3
import Derived.Test.YtlgcmcieipdcgaaX14x4
import Derived.Test.YtlgcmcieipdcgaaX14x5
namespace Go.Proofs.Ytlgcmcieipdcgaa.X14
open Go.RowKit Go.Proofs.YtlgcmcieipdcgaaW.PrintWords Go.Proofs.YtlgcmcieipdcgaaW.PrintLast Go.Proofs.YtlgcmcieipdcgaaW.PrintMore
attribute [local go_sem] Page.fld_page_0 Page.fld_page_1 max2_int min2_int max_two min_two max_three min_three max_four min_four   -- for this text's walks alone
set_option linter.unusedVariables false
set_option linter.unusedSimpArgs false

attribute [local go_sem high] eqA23
/-! ### careenref14_One: function 34 -/
def careenref14_One.l0 : Nat → List (S58) → Int → Int → Int → ByteArray → Option (Int × ByteArray)
  | 0, _, _, _, _, _ => none
  | k + 1, x0, x1, x6, x158000, x158001 => if x6 < (x0.length : Int) then (if 0 ≤ x6 then (if ((rd_T58 x0 x6).f1.f2) = x1 then ((careenref06_Apply.f k x158000 x158001 ((rd_T58 x0 x6).f0) ((rd_T58 x0 x6).f1.f0) ((rd_T58 x0 x6).f1.f1) ((rd_T58 x0 x6).f1.f2) ((rd_T58 x0 x6).f1.f3) ((rd_T58 x0 x6).f1.f4) ((rd_T58 x0 x6).f1.f5) ((rd_T58 x0 x6).f1.f6) ((rd_T58 x0 x6).f1.f7) ((rd_T58 x0 x6).f1.f8) ((rd_T58 x0 x6).f1.f9) ((rd_T58 x0 x6).f1.f10)).bind fun bt161 => (careenref14_One.l0 k x0 x1 (wrap64 (x6 + 1)) bt161.1 bt161.2)) else (careenref14_One.l0 k x0 x1 (wrap64 (x6 + 1)) x158000 x158001)) else (none)) else (some (x158000, x158001))
def careenref14_One.f (k : Nat) (l0 : List (S58)) (a1 : Int) : Option (Int × ByteArray) := (careenref06_Empty.f).bind fun bt155 => (careenref14_One.l0 k l0 a1 0 bt155.1 bt155.2)
theorem careenref14_One.mono_l : ∀ k, (∀ y0 y1 y2 y3 y4, LeO (careenref14_One.l0 k y0 y1 y2 y3 y4) (careenref14_One.l0 (k + 1) y0 y1 y2 y3 y4))
  | 0 => fun _ _ _ _ _ r h => by simp [careenref14_One.l0] at h
  | k + 1 => by
    have ih0 := careenref14_One.mono_l k
    · intro y0 y1 y2 y3 y4
      unfold careenref14_One.l0
      repeat' first
      | (with_reducible exact ih0 _ _ _ _ _)
      | (with_reducible exact careenref06_Apply.mono _ _ _ _ _ _ _ _ _ _ _ _ _ _ _)
      | (with_reducible exact LeO.refl _)
      | (with_reducible exact LeO.none _)
      | (with_reducible refine LeO.ite ?_ ?_)
      | (with_reducible refine LeO.bind ?_ (fun _ => ?_))
      | exact ih0 _ _ _ _ _
      | exact careenref06_Apply.mono _ _ _ _ _ _ _ _ _ _ _ _ _ _ _
      | exact LeO.none _
      | refine LeO.ite ?_ ?_
      | refine LeO.bind ?_ (fun _ => ?_)
theorem careenref14_One.mono : ∀ a0 a1 k, LeO (careenref14_One.f k a0 a1) (careenref14_One.f (k + 1) a0 a1) := by
  intro a0 a1 k
  have ih0 := careenref14_One.mono_l k
  unfold careenref14_One.f
  repeat' first
      | (with_reducible exact ih0 _ _ _ _ _)
      | (with_reducible exact careenref06_Apply.mono _ _ _ _ _ _ _ _ _ _ _ _ _ _ _)
      | (with_reducible exact LeO.refl _)
      | (with_reducible exact LeO.none _)
      | (with_reducible refine LeO.ite ?_ ?_)
      | (with_reducible refine LeO.bind ?_ (fun _ => ?_))
      | exact ih0 _ _ _ _ _
      | exact careenref06_Apply.mono _ _ _ _ _ _ _ _ _ _ _ _ _ _ _
      | exact LeO.none _
      | refine LeO.ite ?_ ?_
      | refine LeO.bind ?_ (fun _ => ?_)
def careenref14_One.T6 : Bool × List (List Nat × List Nat) := (true, [([], []), ([], []), ([], []), ([1, 2], [1, 2]), ([3], [3]), ([4], [4]), ([], []), ([], []), ([6, 7], [6, 7]), ([8], [8]), ([9], [9]), ([0, 5, 10], [0, 5, 10]), ([11, 11, 0, 1, 2, 3, 4, 5, 6, 7, 8, 9, 10, 11], [11])])
def careenref14_One.B6 : List Nat := [0, 0, 0, 6, 14, 30, 0, 0, 192, 448, 960, 2047, 4095]
theorem careenref14_One.tab6 : rtab .any (opsOf Try.f34 6) = careenref14_One.T6 := by kernel_rfl
theorem careenref14_One.bits6 : waitsOk careenref14_One.T6.2 careenref14_One.B6 = true := by kernel_rfl
set_option maxHeartbeats 8000000 in
set_option maxRecDepth 100000 in
theorem careenref14_One.calls (k : Nat) (A0 : Option Addr) (c0 : Nat) (l0 : List (S58)) (a1 : Int) (r1 : Int) (r2 : ByteArray) (w : World) (hr0 : Kd.C k58 w A0 l0.length l0) (hc0 : l0.length ≤ c0) (h : careenref14_One.f k l0 a1 = some (r1, r2)) :
    Calls Try.prog 34 #[.slice A0 l0.length c0, .int .i64 a1] w fun e w' => e = .returned (.agg #[.int .i64 r1, .string r2]) ∧ Below w.heap.size w w' := by
  have hu23 := Try.underlying23
  have hu40 := Try.underlying40
  have HR0 := Aside0.mk hr0
  have HC0 := Aside0.mk hc0
  clear hr0 hc0
  have HB := Aside0.mk (Below.refl w.heap.size w)
  have H : ((careenref06_Empty.f).bind fun bt155 => (careenref14_One.l0 k l0 a1 0 bt155.1 bt155.2)) = some (r1, r2) := h
  clear h
  replace H := Option.bind_eq_some_iff.mp H
  obtain ⟨⟨t155, t156⟩, A30, H⟩ := H
  replace H : (careenref14_One.l0 k l0 a1 0 t155 t156) = some (r1, r2) := H
  have A3 := Aside0.mk A30
  clear A30
  have H' := Aside0.mk H
  clear H
  go_enter Try.func34, Try.ntmps34
  go_wp2_with (first | ((with_reducible refine gate_dst (N := 4) rfl ?_); refine box_event ?hg (N := 4) ?hd (cs := #[.int .i64 0, .string (⟨#[]⟩ : ByteArray)]) (t := 23) ?hr ?_; (case hd => rfl); (case hg => rfl); (case hr => first | (go_simp; done) | (go_simp; rfl)); intro gb154 hg w4 hbox hb; have n0_ := Aside0.mk (below_step (by repeat (first | (with_reducible first | exact HB.out | apply below_alloc | apply pw_below_drewN | apply below_drew1) | exact HB.out)) hb); have n1_ := Aside0.mk (hbox); have n2_ := Aside0.mk ((by rw [hg]; exact (below_size (by repeat (first | (with_reducible first | exact HB.out | apply below_alloc | apply pw_below_drewN | apply below_drew1) | exact HB.out))) : w.heap.size ≤ gb154)); have n3_ := Aside0.mk ((by rw [hg]; exact (below_size (by repeat (first | (with_reducible first | exact HB.out | apply below_alloc | apply pw_below_drewN | apply below_drew1) | exact HB.out))) : w.heap.size ≤ gb154)); clear HB; have HB := n0_; have BK154 := n1_; have GW154 := n2_; have GE154 := n3_; clear n0_ n1_ n2_ n3_; clear hb hbox hg) | ((with_reducible refine gate_callee (f := 23) rfl ?_); refine goesL_ (some 7) rfl rfl Try.func23 (by kernel_rfl) rfl #[] rfl (by (try simp only [List.map_toArray, List.map_cons, List.map_nil]); first | done | rfl | (simp only [List.length_drop, List.length_take]; rfl)) ?_; (with_reducible refine (careenref06_Empty.calls  t155 t156 _ A3.out).mono ?_); rintro e w5 ⟨rfl, hb⟩; refine ⟨_, rfl, ?_⟩; have n0_ := Aside0.mk (blk_below (g := gb154) (o := .cells #[.int .i64 0, .string (⟨#[]⟩ : ByteArray)] 23 (0, 0)) (by (with_reducible repeat (first | refine blk_drewN ?_ _ | refine blk_drew ?_ | refine blk_alloc ?_ _)); exact BK154.out) hb); have n1_ := Aside0.mk (below_step (by repeat (first | (with_reducible first | exact HB.out | apply below_alloc | apply pw_below_drewN | apply below_drew1 | refine below_set ?_ GE154.out) | exact HB.out)) hb); clear BK154; clear HB; have BK154 := n0_; have HB := n1_; clear n0_ n1_; (try clear hb); (try clear hb2); (try clear hk); (try clear hi)) | ((with_reducible refine gate_dst (N := 5) rfl ?_); refine box_event ?hg (N := 5) ?hd (cs := #[.int .i64 0, .string (⟨#[]⟩ : ByteArray)]) (t := 23) ?hr ?_; (case hd => rfl); (case hg => rfl); (case hr => first | (go_simp; done) | (go_simp; rfl)); intro gb157 hg w6 hbox hb; have n0_ := Aside0.mk (blk_below (g := gb154) (o := .cells #[.int .i64 0, .string (⟨#[]⟩ : ByteArray)] 23 (0, 0)) (by (with_reducible repeat (first | refine blk_drewN ?_ _ | refine blk_drew ?_ | refine blk_alloc ?_ _)); exact BK154.out) hb); have n1_ := Aside0.mk (below_step (by repeat (first | (with_reducible first | exact HB.out | apply below_alloc | apply pw_below_drewN | apply below_drew1 | refine below_set ?_ GE154.out) | exact HB.out)) hb); have n2_ := Aside0.mk (hbox); have n3_ := Aside0.mk ((by rw [hg]; exact (below_size (by repeat (first | (with_reducible first | exact HB.out | apply below_alloc | apply pw_below_drewN | apply below_drew1 | refine below_set ?_ GE154.out) | exact HB.out))) : w.heap.size ≤ gb157)); have n4_ := Aside0.mk ((by rw [hg]; exact (below_size (by repeat (first | (with_reducible first | exact HB.out | apply below_alloc | apply pw_below_drewN | apply below_drew1 | refine below_set ?_ GE154.out) | exact HB.out))) : w.heap.size ≤ gb157)); have n5_ := Aside0.mk ((by rw [hg]; exact Nat.ne_of_lt (blk_lt (g := gb154) (o := .cells #[.int .i64 0, .string (⟨#[]⟩ : ByteArray)] 23 (0, 0)) (by (with_reducible repeat (first | refine blk_drewN ?_ _ | refine blk_drew ?_ | refine blk_alloc ?_ _)); exact BK154.out)) : gb154 ≠ gb157)); have n6_ := Aside0.mk ((by rw [hg]; exact Nat.ne_of_gt (blk_lt (g := gb154) (o := .cells #[.int .i64 0, .string (⟨#[]⟩ : ByteArray)] 23 (0, 0)) (by (with_reducible repeat (first | refine blk_drewN ?_ _ | refine blk_drew ?_ | refine blk_alloc ?_ _)); exact BK154.out)) : gb157 ≠ gb154)); clear BK154; clear HB; have BK154 := n0_; have HB := n1_; have BK157 := n2_; have GW157 := n3_; have GE157 := n4_; have NB154_157 := n5_; have NB157_154 := n6_; clear n0_ n1_ n2_ n3_ n4_ n5_ n6_; clear hb hbox hg; have hnb7 := NB157_154.out; have hnc7 := NB154_157.out; have hcz8_0 : w6.cell? ⟨gb157, 0, none⟩ = some (.int .i64 0) := (blk_cell BK157.out 0).trans rfl; have hcz8_1 : w6.cell? ⟨gb157, 1, none⟩ = some (.string (⟨#[]⟩ : ByteArray)) := (blk_cell BK157.out 1).trans rfl; have hfz8_0 := blk_frozen BK157.out 0; have hfz8_1 := blk_frozen BK157.out 1))
  go_loopg [6] k (fun kq v6 w' => ∃ (x6_1 : Int) (x158000_1 : Int) (x158001_1 : ByteArray), v6 = .int .i64 x6_1 ∧ Aside0 (careenref14_One.l0 kq l0 a1 x6_1 x158000_1 x158001_1 = some (r1, r2)) ∧ Aside0 (kq ≤ k) ∧ Aside0 (w'.heap[gb154]? = some (.cells #[.int .i64 0, .string (⟨#[]⟩ : ByteArray)] 23 (0, 0))) ∧ Aside0 (w'.heap[gb157]? = some (.cells #[.int .i64 x158000_1, .string x158001_1] 23 (0, 0))) ∧ Aside0 (Below w.heap.size w w'))
  case atStart => exact ⟨(0), (t155), (t156), (by first | rfl | (simp; done) | (simp [*]; done)), H', ⟨Nat.le_refl _⟩, ⟨by (with_reducible repeat (first | refine blk_drewN ?_ _ | refine blk_drew ?_ | refine blk_alloc ?_ _)); refine blk_far ?_ NB154_157.out _; (with_reducible repeat (first | refine blk_drewN ?_ _ | refine blk_drew ?_ | refine blk_alloc ?_ _)); refine blk_far ?_ NB154_157.out _; (with_reducible repeat (first | refine blk_drewN ?_ _ | refine blk_drew ?_ | refine blk_alloc ?_ _)); exact BK154.out⟩, ⟨by (with_reducible repeat (first | refine blk_drewN ?_ _ | refine blk_drew ?_ | refine blk_alloc ?_ _)); refine blk_put (cs := #[.int .i64 t155, .string (⟨#[]⟩ : ByteArray)]) ?_ 1 _ rfl; (with_reducible repeat (first | refine blk_drewN ?_ _ | refine blk_drew ?_ | refine blk_alloc ?_ _)); refine blk_put (cs := #[.int .i64 0, .string (⟨#[]⟩ : ByteArray)]) ?_ 0 _ rfl; (with_reducible repeat (first | refine blk_drewN ?_ _ | refine blk_drew ?_ | refine blk_alloc ?_ _)); exact BK157.out⟩, ⟨by repeat (first | (with_reducible first | exact HB.out | apply below_alloc | apply pw_below_drewN | apply below_drew1 | refine below_set ?_ GE154.out | refine below_set ?_ GE157.out) | exact HB.out)⟩⟩
  case round =>
    clear H'
    try clear c2
    try clear p2
    try clear c3
    try clear c7
    try clear hcz8_0
    try clear hcz8_1
    try clear hfz8_0
    try clear hfz8_1
    obtain ⟨x6_1, x158000_1, x158001_1, rfl, HA, HK1, BK154, BK157, HB⟩ := hrel
    cases gk with
    | zero => exact absurd HA.out (by simp [careenref14_One.l0])
    | succ k1 =>
      have H := HA.out
      clear HA
      simp only [careenref14_One.l0] at H
      by_cases c9 : x6_1 < (l0.length : Int)
      · rw [if_pos c9] at H
        have c9b0 : decide (x6_1 < (l0.length : Int)) = true := decide_eq_true c9
        clear c9
        by_cases c10 : 0 ≤ x6_1
        · rw [if_pos c10] at H
          have c10b0 : decide (0 ≤ x6_1) = true := decide_eq_true c10
          clear c10
          by_cases c11 : ((rd_T58 l0 x6_1).f1.f2) = a1
          · rw [if_pos c11] at H
            have c11b0 : (((rd_T58 l0 x6_1).f1.f2) == a1) = true := beq_iff_eq.mpr c11
            have c11b1 : (((rd_T58 l0 x6_1).f1.f2) != a1) = false := bne_eq_false_iff_eq.mpr c11
            clear c11
            replace H := Option.bind_eq_some_iff.mp H
            obtain ⟨⟨t161, t162⟩, A120, H⟩ := H
            replace H : (careenref14_One.l0 k1 l0 a1 (wrap64 (x6_1 + 1)) t161 t162) = some (r1, r2) := H
            have A12 := Aside0.mk A120
            clear A120
            have H' := Aside0.mk H
            clear H
            have p158 : 0 ≤ (x6_1 : Int) := of_decide_eq_true (by first | (with_reducible assumption) | assumption)
            have q158 : x6_1 < (l0.length : Int) := of_decide_eq_true (by first | (with_reducible assumption) | assumption)
            obtain ⟨ad158, A158_10, c158_10, A158_11, c158_11, e158, hx158_0, hx158_1, hx158_2, hx158_3, hx158_4, hx158_5, hx158_6, hx158_7, hx158_8, hx158_9, hx158_10, hx158_11, hl158_10, hi158_10, hl158_11, hi158_11⟩ := at_T58 HR0.out x6_1 p158 q158
            cases e158
            replace hx158_0 := (HB.out.cell (World.block_lt_of_cell? w _ hx158_0)).trans hx158_0
            replace hx158_1 := (HB.out.cell (World.block_lt_of_cell? w _ hx158_1)).trans hx158_1
            replace hx158_2 := (HB.out.cell (World.block_lt_of_cell? w _ hx158_2)).trans hx158_2
            replace hx158_3 := (HB.out.cell (World.block_lt_of_cell? w _ hx158_3)).trans hx158_3
            replace hx158_4 := (HB.out.cell (World.block_lt_of_cell? w _ hx158_4)).trans hx158_4
            replace hx158_5 := (HB.out.cell (World.block_lt_of_cell? w _ hx158_5)).trans hx158_5
            replace hx158_6 := (HB.out.cell (World.block_lt_of_cell? w _ hx158_6)).trans hx158_6
            replace hx158_7 := (HB.out.cell (World.block_lt_of_cell? w _ hx158_7)).trans hx158_7
            replace hx158_8 := (HB.out.cell (World.block_lt_of_cell? w _ hx158_8)).trans hx158_8
            replace hx158_9 := (HB.out.cell (World.block_lt_of_cell? w _ hx158_9)).trans hx158_9
            replace hx158_10 := (HB.out.cell (World.block_lt_of_cell? w _ hx158_10)).trans hx158_10
            replace hx158_11 := (HB.out.cell (World.block_lt_of_cell? w _ hx158_11)).trans hx158_11
            have HR158_10 := Aside0.mk hi158_10
            have HC158_10 := Aside0.mk hl158_10
            clear hi158_10 hl158_10
            have HR158_11 := Aside0.mk hi158_11
            have HC158_11 := Aside0.mk hl158_11
            clear hi158_11 hl158_11
            replace p158 := eq_true p158
            replace q158 := eq_true q158
            try go_wp2
            have n0_ := Aside0.mk (blk_drew BK154.out)
            have n1_ := Aside0.mk (blk_drew BK157.out)
            have n2_ := Aside0.mk (below_drew1 HB.out)
            clear BK154
            clear BK157
            clear HB
            have BK154 := n0_
            have BK157 := n1_
            have HB := n2_
            clear n0_ n1_ n2_
            have p159 : 0 ≤ (x6_1 : Int) := of_decide_eq_true (by first | (with_reducible assumption) | assumption)
            have q159 : x6_1 < (l0.length : Int) := of_decide_eq_true (by first | (with_reducible assumption) | assumption)
            obtain ⟨ad159, A159_10, c159_10, A159_11, c159_11, e159, hx159_0, hx159_1, hx159_2, hx159_3, hx159_4, hx159_5, hx159_6, hx159_7, hx159_8, hx159_9, hx159_10, hx159_11, hl159_10, hi159_10, hl159_11, hi159_11⟩ := at_T58 HR0.out x6_1 p159 q159
            have hw159_11 := hx159_11
            have hw159_10 := hx159_10
            have hw159_9 := hx159_9
            have hw159_8 := hx159_8
            have hw159_7 := hx159_7
            have hw159_6 := hx159_6
            have hw159_5 := hx159_5
            have hw159_4 := hx159_4
            have hw159_3 := hx159_3
            have hw159_2 := hx159_2
            have hw159_1 := hx159_1
            have hw159_0 := hx159_0
            obtain rfl : ad158 = ad159 := (by injection e159)
            replace hx159_0 := (HB.out.cell (World.block_lt_of_cell? w _ hx159_0)).trans hx159_0
            replace hx159_1 := (HB.out.cell (World.block_lt_of_cell? w _ hx159_1)).trans hx159_1
            replace hx159_2 := (HB.out.cell (World.block_lt_of_cell? w _ hx159_2)).trans hx159_2
            replace hx159_3 := (HB.out.cell (World.block_lt_of_cell? w _ hx159_3)).trans hx159_3
            replace hx159_4 := (HB.out.cell (World.block_lt_of_cell? w _ hx159_4)).trans hx159_4
            replace hx159_5 := (HB.out.cell (World.block_lt_of_cell? w _ hx159_5)).trans hx159_5
            replace hx159_6 := (HB.out.cell (World.block_lt_of_cell? w _ hx159_6)).trans hx159_6
            replace hx159_7 := (HB.out.cell (World.block_lt_of_cell? w _ hx159_7)).trans hx159_7
            replace hx159_8 := (HB.out.cell (World.block_lt_of_cell? w _ hx159_8)).trans hx159_8
            replace hx159_9 := (HB.out.cell (World.block_lt_of_cell? w _ hx159_9)).trans hx159_9
            replace hx159_10 := (HB.out.cell (World.block_lt_of_cell? w _ hx159_10)).trans hx159_10
            replace hx159_11 := (HB.out.cell (World.block_lt_of_cell? w _ hx159_11)).trans hx159_11
            have HR159_10 := Aside0.mk hi159_10
            have HC159_10 := Aside0.mk hl159_10
            clear hi159_10 hl159_10
            have HR159_11 := Aside0.mk hi159_11
            have HC159_11 := Aside0.mk hl159_11
            clear hi159_11 hl159_11
            replace p159 := eq_true p159
            replace q159 := eq_true q159
            have p160 : 0 ≤ (x6_1 : Int) := of_decide_eq_true (by first | (with_reducible assumption) | assumption)
            have q160 : x6_1 < (l0.length : Int) := of_decide_eq_true (by first | (with_reducible assumption) | assumption)
            obtain ⟨ad160, A160_10, c160_10, A160_11, c160_11, e160, hx160_0, hx160_1, hx160_2, hx160_3, hx160_4, hx160_5, hx160_6, hx160_7, hx160_8, hx160_9, hx160_10, hx160_11, hl160_10, hi160_10, hl160_11, hi160_11⟩ := at_T58 HR0.out x6_1 p160 q160
            have hw160_11 := hx160_11
            have hw160_10 := hx160_10
            have hw160_9 := hx160_9
            have hw160_8 := hx160_8
            have hw160_7 := hx160_7
            have hw160_6 := hx160_6
            have hw160_5 := hx160_5
            have hw160_4 := hx160_4
            have hw160_3 := hx160_3
            have hw160_2 := hx160_2
            have hw160_1 := hx160_1
            have hw160_0 := hx160_0
            obtain rfl : ad158 = ad160 := (by injection e160)
            replace hx160_0 := (HB.out.cell (World.block_lt_of_cell? w _ hx160_0)).trans hx160_0
            replace hx160_1 := (HB.out.cell (World.block_lt_of_cell? w _ hx160_1)).trans hx160_1
            replace hx160_2 := (HB.out.cell (World.block_lt_of_cell? w _ hx160_2)).trans hx160_2
            replace hx160_3 := (HB.out.cell (World.block_lt_of_cell? w _ hx160_3)).trans hx160_3
            replace hx160_4 := (HB.out.cell (World.block_lt_of_cell? w _ hx160_4)).trans hx160_4
            replace hx160_5 := (HB.out.cell (World.block_lt_of_cell? w _ hx160_5)).trans hx160_5
            replace hx160_6 := (HB.out.cell (World.block_lt_of_cell? w _ hx160_6)).trans hx160_6
            replace hx160_7 := (HB.out.cell (World.block_lt_of_cell? w _ hx160_7)).trans hx160_7
            replace hx160_8 := (HB.out.cell (World.block_lt_of_cell? w _ hx160_8)).trans hx160_8
            replace hx160_9 := (HB.out.cell (World.block_lt_of_cell? w _ hx160_9)).trans hx160_9
            replace hx160_10 := (HB.out.cell (World.block_lt_of_cell? w _ hx160_10)).trans hx160_10
            replace hx160_11 := (HB.out.cell (World.block_lt_of_cell? w _ hx160_11)).trans hx160_11
            have HR160_10 := Aside0.mk hi160_10
            have HC160_10 := Aside0.mk hl160_10
            clear hi160_10 hl160_10
            have HR160_11 := Aside0.mk hi160_11
            have HC160_11 := Aside0.mk hl160_11
            clear hi160_11 hl160_11
            replace p160 := eq_true p160
            replace q160 := eq_true q160
            have ea_ := Option.some.inj (hx159_10.symm.trans hx160_10)
            injection ea_ with ea_ en_ ec_
            subst ea_
            subst ec_
            clear en_
            have ea_ := Option.some.inj (hx159_11.symm.trans hx160_11)
            injection ea_ with ea_ en_ ec_
            subst ea_
            subst ec_
            clear en_
            refine start_ (n := 13) (S := fun w' => w'.cell? ⟨gb157, 0, none⟩ = some (.int .i64 x158000_1) ∧ w'.cell? ⟨gb157, 1, none⟩ = some (.string x158001_1) ∧ w'.cell? (ad158.add ((x6_1).toNat * 12)) = some (.int .i64 ((rd_T58 l0 x6_1).f0)) ∧ w'.cell? ⟨(ad158.add ((x6_1).toNat * 12)).block, (ad158.add ((x6_1).toNat * 12)).off + 1, none⟩ = some (.int .i64 ((rd_T58 l0 x6_1).f1.f0)) ∧ w'.cell? ⟨(ad158.add ((x6_1).toNat * 12)).block, (ad158.add ((x6_1).toNat * 12)).off + 2, none⟩ = some (.int .i64 ((rd_T58 l0 x6_1).f1.f1)) ∧ w'.cell? ⟨(ad158.add ((x6_1).toNat * 12)).block, (ad158.add ((x6_1).toNat * 12)).off + 3, none⟩ = some (.int .i64 ((rd_T58 l0 x6_1).f1.f2)) ∧ w'.cell? ⟨(ad158.add ((x6_1).toNat * 12)).block, (ad158.add ((x6_1).toNat * 12)).off + 4, none⟩ = some (.int .i64 ((rd_T58 l0 x6_1).f1.f3)) ∧ w'.cell? ⟨(ad158.add ((x6_1).toNat * 12)).block, (ad158.add ((x6_1).toNat * 12)).off + 5, none⟩ = some (.int .i64 ((rd_T58 l0 x6_1).f1.f4)) ∧ w'.cell? ⟨(ad158.add ((x6_1).toNat * 12)).block, (ad158.add ((x6_1).toNat * 12)).off + 6, none⟩ = some (.int .i64 ((rd_T58 l0 x6_1).f1.f5)) ∧ w'.cell? ⟨(ad158.add ((x6_1).toNat * 12)).block, (ad158.add ((x6_1).toNat * 12)).off + 7, none⟩ = some (.int .i64 ((rd_T58 l0 x6_1).f1.f6)) ∧ w'.cell? ⟨(ad158.add ((x6_1).toNat * 12)).block, (ad158.add ((x6_1).toNat * 12)).off + 8, none⟩ = some (.string ((rd_T58 l0 x6_1).f1.f7)) ∧ w'.cell? ⟨(ad158.add ((x6_1).toNat * 12)).block, (ad158.add ((x6_1).toNat * 12)).off + 9, none⟩ = some (.string ((rd_T58 l0 x6_1).f1.f8)) ∧ w'.cell? ⟨(ad158.add ((x6_1).toNat * 12)).block, (ad158.add ((x6_1).toNat * 12)).off + 10, none⟩ = some (.slice A159_10 ((rd_T58 l0 x6_1).f1.f9).length c159_10) ∧ w'.cell? ⟨(ad158.add ((x6_1).toNat * 12)).block, (ad158.add ((x6_1).toNat * 12)).off + 11, none⟩ = some (.slice A159_11 ((rd_T58 l0 x6_1).f1.f10).length c159_11) ∧ w'.cell? (ad158.add ((x6_1).toNat * 12)) = some (.int .i64 ((rd_T58 l0 x6_1).f0)) ∧ w'.cell? ⟨(ad158.add ((x6_1).toNat * 12)).block, (ad158.add ((x6_1).toNat * 12)).off + 1, none⟩ = some (.int .i64 ((rd_T58 l0 x6_1).f1.f0)) ∧ w'.cell? ⟨(ad158.add ((x6_1).toNat * 12)).block, (ad158.add ((x6_1).toNat * 12)).off + 2, none⟩ = some (.int .i64 ((rd_T58 l0 x6_1).f1.f1)) ∧ w'.cell? ⟨(ad158.add ((x6_1).toNat * 12)).block, (ad158.add ((x6_1).toNat * 12)).off + 3, none⟩ = some (.int .i64 ((rd_T58 l0 x6_1).f1.f2)) ∧ w'.cell? ⟨(ad158.add ((x6_1).toNat * 12)).block, (ad158.add ((x6_1).toNat * 12)).off + 4, none⟩ = some (.int .i64 ((rd_T58 l0 x6_1).f1.f3)) ∧ w'.cell? ⟨(ad158.add ((x6_1).toNat * 12)).block, (ad158.add ((x6_1).toNat * 12)).off + 5, none⟩ = some (.int .i64 ((rd_T58 l0 x6_1).f1.f4)) ∧ w'.cell? ⟨(ad158.add ((x6_1).toNat * 12)).block, (ad158.add ((x6_1).toNat * 12)).off + 6, none⟩ = some (.int .i64 ((rd_T58 l0 x6_1).f1.f5)) ∧ w'.cell? ⟨(ad158.add ((x6_1).toNat * 12)).block, (ad158.add ((x6_1).toNat * 12)).off + 7, none⟩ = some (.int .i64 ((rd_T58 l0 x6_1).f1.f6)) ∧ w'.cell? ⟨(ad158.add ((x6_1).toNat * 12)).block, (ad158.add ((x6_1).toNat * 12)).off + 8, none⟩ = some (.string ((rd_T58 l0 x6_1).f1.f7)) ∧ w'.cell? ⟨(ad158.add ((x6_1).toNat * 12)).block, (ad158.add ((x6_1).toNat * 12)).off + 9, none⟩ = some (.string ((rd_T58 l0 x6_1).f1.f8)) ∧ w'.cell? ⟨(ad158.add ((x6_1).toNat * 12)).block, (ad158.add ((x6_1).toNat * 12)).off + 10, none⟩ = some (.slice A159_10 ((rd_T58 l0 x6_1).f1.f9).length c159_10) ∧ w'.cell? ⟨(ad158.add ((x6_1).toNat * 12)).block, (ad158.add ((x6_1).toNat * 12)).off + 11, none⟩ = some (.slice A159_11 ((rd_T58 l0 x6_1).f1.f10).length c159_11)) (ds := [12]) #[false, false, false, false, false, false, false, false, false, false, false, false, false] (by kernel_rfl) rfl rfl ⟨(blk_cell BK157.out 0).trans rfl, (blk_cell BK157.out 1).trans rfl, ((HB.out.cell (World.block_lt_of_cell? w _ hw159_0)).trans hw159_0), ((HB.out.cell (World.block_lt_of_cell? w _ hw159_1)).trans hw159_1), ((HB.out.cell (World.block_lt_of_cell? w _ hw159_2)).trans hw159_2), ((HB.out.cell (World.block_lt_of_cell? w _ hw159_3)).trans hw159_3), ((HB.out.cell (World.block_lt_of_cell? w _ hw159_4)).trans hw159_4), ((HB.out.cell (World.block_lt_of_cell? w _ hw159_5)).trans hw159_5), ((HB.out.cell (World.block_lt_of_cell? w _ hw159_6)).trans hw159_6), ((HB.out.cell (World.block_lt_of_cell? w _ hw159_7)).trans hw159_7), ((HB.out.cell (World.block_lt_of_cell? w _ hw159_8)).trans hw159_8), ((HB.out.cell (World.block_lt_of_cell? w _ hw159_9)).trans hw159_9), ((HB.out.cell (World.block_lt_of_cell? w _ hw159_10)).trans hw159_10), ((HB.out.cell (World.block_lt_of_cell? w _ hw159_11)).trans hw159_11), ((HB.out.cell (World.block_lt_of_cell? w _ hw160_0)).trans hw160_0), ((HB.out.cell (World.block_lt_of_cell? w _ hw160_1)).trans hw160_1), ((HB.out.cell (World.block_lt_of_cell? w _ hw160_2)).trans hw160_2), ((HB.out.cell (World.block_lt_of_cell? w _ hw160_3)).trans hw160_3), ((HB.out.cell (World.block_lt_of_cell? w _ hw160_4)).trans hw160_4), ((HB.out.cell (World.block_lt_of_cell? w _ hw160_5)).trans hw160_5), ((HB.out.cell (World.block_lt_of_cell? w _ hw160_6)).trans hw160_6), ((HB.out.cell (World.block_lt_of_cell? w _ hw160_7)).trans hw160_7), ((HB.out.cell (World.block_lt_of_cell? w _ hw160_8)).trans hw160_8), ((HB.out.cell (World.block_lt_of_cell? w _ hw160_9)).trans hw160_9), ((HB.out.cell (World.block_lt_of_cell? w _ hw160_10)).trans hw160_10), ((HB.out.cell (World.block_lt_of_cell? w _ hw160_11)).trans hw160_11)⟩ (fun hHeld => ?_); refine with_tabW careenref14_One.tab6 careenref14_One.bits6 (fun HT_ HW_ => ?_)
            generalize wr.drew = w13 at BK154 BK157 HB HR159_10 HR159_11 HR160_10 HR160_11 hx159_0 hx159_1 hx159_10 hx159_11 hx159_2 hx159_3 hx159_4 hx159_5 hx159_6 hx159_7 hx159_8 hx159_9 hx160_0 hx160_1 hx160_10 hx160_11 hx160_2 hx160_3 hx160_4 hx160_5 hx160_6 hx160_7 hx160_8 hx160_9 hHeld ⊢
            refine pure_ (i := 1) (N := some 23) (v := ?_) (a' := ?_) #[false, true, false, false, false, false, false, false, false, false, false, false, false] rfl rfl (any_of HT_.out (by kernel_rfl)) (fun _ _ _ h => h) (Or.inl ⟨by rfl, ?_⟩) ?_ ?_
            rotate_left
            · intro w'
              go_simp
              with_reducible rfl
            rotate_left
            · simp only [Act.put, List.setIfInBounds_toArray, List.set_cons_zero, List.set_cons_succ, i64_w, i32_w]
              rfl
            refine pure_ (i := 2) (N := some 24) (v := ?_) (a' := ?_) #[false, true, true, false, false, false, false, false, false, false, false, false, false] rfl rfl (any_of HT_.out (by kernel_rfl)) (fun _ _ _ h => h) (Or.inl ⟨by rfl, ?_⟩) ?_ ?_
            rotate_left
            · intro w'
              go_simp
              with_reducible rfl
            rotate_left
            · simp only [Act.put, List.setIfInBounds_toArray, List.set_cons_zero, List.set_cons_succ, i64_w, i32_w]
              rfl
            refine pure_ (i := 3) (N := some 25) (v := ?_) (a' := ?_) #[false, true, true, true, false, false, false, false, false, false, false, false, false] rfl rfl (any_of HT_.out (by kernel_rfl)) (fun _ _ _ h => h) (Or.inl ⟨by rfl, ?_⟩) ?_ ?_
            rotate_left
            · intro w'
              go_simp
              with_reducible rfl
            rotate_left
            · simp only [Act.put, List.setIfInBounds_toArray, List.set_cons_zero, List.set_cons_succ, i64_w, i32_w]
              rfl
            refine pure_ (i := 4) (N := some 26) (v := ?_) (a' := ?_) #[false, true, true, true, true, false, false, false, false, false, false, false, false] rfl rfl (any_of HT_.out (by kernel_rfl)) (fun _ _ _ h => h) (Or.inl ⟨by rfl, ?_⟩) ?_ ?_
            rotate_left
            · intro w'
              go_simp
              with_reducible rfl
            rotate_left
            · simp only [Act.put, List.setIfInBounds_toArray, List.set_cons_zero, List.set_cons_succ, i64_w, i32_w]
              rfl
            refine pure_ (i := 6) (N := some 28) (v := ?_) (a' := ?_) #[false, true, true, true, true, false, true, false, false, false, false, false, false] rfl rfl (any_of HT_.out (by kernel_rfl)) (fun _ _ _ h => h) (Or.inl ⟨by rfl, ?_⟩) ?_ ?_
            rotate_left
            · intro w'
              go_simp
              with_reducible rfl
            rotate_left
            · simp only [Act.put, List.setIfInBounds_toArray, List.set_cons_zero, List.set_cons_succ, i64_w, i32_w]
              rfl
            refine pure_ (i := 7) (N := some 29) (v := ?_) (a' := ?_) #[false, true, true, true, true, false, true, true, false, false, false, false, false] rfl rfl (any_of HT_.out (by kernel_rfl)) (fun _ _ _ h => h) (Or.inl ⟨by rfl, ?_⟩) ?_ ?_
            rotate_left
            · intro w'
              go_simp
              with_reducible rfl
            rotate_left
            · simp only [Act.put, List.setIfInBounds_toArray, List.set_cons_zero, List.set_cons_succ, i64_w, i32_w]
              rfl
            refine pure_ (i := 8) (N := some 30) (v := ?_) (a' := ?_) #[false, true, true, true, true, false, true, true, true, false, false, false, false] rfl rfl (any_of HT_.out (by kernel_rfl)) (fun _ _ _ h => h) (Or.inl ⟨by rfl, ?_⟩) ?_ ?_
            rotate_left
            · intro w'
              go_simp
              with_reducible rfl
            rotate_left
            · simp only [Act.put, List.setIfInBounds_toArray, List.set_cons_zero, List.set_cons_succ, i64_w, i32_w]
              rfl
            refine pure_ (i := 9) (N := some 31) (v := ?_) (a' := ?_) #[false, true, true, true, true, false, true, true, true, true, false, false, false] rfl rfl (any_of HT_.out (by kernel_rfl)) (fun _ _ _ h => h) (Or.inl ⟨by rfl, ?_⟩) ?_ ?_
            rotate_left
            · intro w'
              go_simp
              with_reducible rfl
            rotate_left
            · simp only [Act.put, List.setIfInBounds_toArray, List.set_cons_zero, List.set_cons_succ, i64_w, i32_w]
              rfl
            refine take_ (i := 0) (N := some 22) (v := ?_) (a' := ?_) #[true, true, true, true, true, false, true, true, true, true, false, false, false] rfl rfl (take_ofW HT_.out HW_.out (by kernel_rfl)) (fun _ _ _ h => h) (Or.inl ⟨by rfl, ?_⟩) hHeld ?_ ?_
            rotate_left
            · rintro w' ⟨s0, s1, s2, s3, s4, s5, s6, s7, s8, s9, s10, s11, s12, s13, s14, s15, s16, s17, s18, s19, s20, s21, s22, s23, s24, s25⟩
              go_simp
              with_reducible rfl
            rotate_left
            · simp only [Act.put, List.setIfInBounds_toArray, List.set_cons_zero, List.set_cons_succ, i64_w, i32_w]
              rfl
            refine take_ (i := 5) (N := some 27) (v := ?_) (a' := ?_) #[true, true, true, true, true, true, true, true, true, true, false, false, false] rfl rfl (take_ofW HT_.out HW_.out (by kernel_rfl)) (fun _ _ _ h => h) (Or.inl ⟨by rfl, ?_⟩) hHeld ?_ ?_
            rotate_left
            · rintro w' ⟨s0, s1, s2, s3, s4, s5, s6, s7, s8, s9, s10, s11, s12, s13, s14, s15, s16, s17, s18, s19, s20, s21, s22, s23, s24, s25⟩
              go_simp
              with_reducible rfl
            rotate_left
            · simp only [Act.put, List.setIfInBounds_toArray, List.set_cons_zero, List.set_cons_succ, i64_w, i32_w]
              rfl
            refine take_ (i := 10) (N := some 32) (v := ?_) (a' := ?_) #[true, true, true, true, true, true, true, true, true, true, true, false, false] rfl rfl (take_ofW HT_.out HW_.out (by kernel_rfl)) (fun _ _ _ h => h) (Or.inl ⟨by rfl, ?_⟩) hHeld ?_ ?_
            rotate_left
            · rintro w' ⟨s0, s1, s2, s3, s4, s5, s6, s7, s8, s9, s10, s11, s12, s13, s14, s15, s16, s17, s18, s19, s20, s21, s22, s23, s24, s25⟩
              go_simp
              with_reducible rfl
            rotate_left
            · simp only [Act.put, List.setIfInBounds_toArray, List.set_cons_zero, List.set_cons_succ, i64_w, i32_w]
              rfl
            refine one_ (i := 11) (N := some 33) #[true, true, true, true, true, true, true, true, true, true, true, true, false] rfl rfl (one_of HT_.out (by kernel_rfl)) (by decide) (fun K hK => ?_)
            refine goes_ Try.func26 (by kernel_rfl) rfl #[.agg #[.int .i64 x158000_1, .string x158001_1], .int .i64 ((rd_T58 l0 x6_1).f0), .agg #[.int .i64 ((rd_T58 l0 x6_1).f1.f0), .int .i64 ((rd_T58 l0 x6_1).f1.f1), .int .i64 ((rd_T58 l0 x6_1).f1.f2), .int .i64 ((rd_T58 l0 x6_1).f1.f3), .int .i64 ((rd_T58 l0 x6_1).f1.f4), .int .i64 ((rd_T58 l0 x6_1).f1.f5), .int .i64 ((rd_T58 l0 x6_1).f1.f6), .string ((rd_T58 l0 x6_1).f1.f7), .string ((rd_T58 l0 x6_1).f1.f8), .slice A159_10 ((rd_T58 l0 x6_1).f1.f9).length c159_10, .slice A159_11 ((rd_T58 l0 x6_1).f1.f10).length c159_11]] (by rfl) rfl rfl (by (try simp only [List.map_toArray, List.map_cons, List.map_nil]); first | done | rfl | (simp only [List.length_drop, List.length_take]; rfl)) ?_
            with_reducible refine (careenref06_Apply.calls k1 x158000_1 x158001_1 ((rd_T58 l0 x6_1).f0) ((rd_T58 l0 x6_1).f1.f0) ((rd_T58 l0 x6_1).f1.f1) ((rd_T58 l0 x6_1).f1.f2) ((rd_T58 l0 x6_1).f1.f3) ((rd_T58 l0 x6_1).f1.f4) ((rd_T58 l0 x6_1).f1.f5) ((rd_T58 l0 x6_1).f1.f6) ((rd_T58 l0 x6_1).f1.f7) ((rd_T58 l0 x6_1).f1.f8) _ _ ((rd_T58 l0 x6_1).f1.f9) _ _ ((rd_T58 l0 x6_1).f1.f10) t161 t162 _ ?side1 ?side2 ?side3 ?side4 A12.out).mono ?_
            (case side1 => repeat (first | exact (Kd.C_below HR160_10.out HB.out) | (with_reducible refine Kd.C_alloc ?_ _) | (with_reducible refine Kd.C_drewN ?_ _) | (with_reducible refine Kd.C_drew ?_)))
            (case side2 => exact HC160_10.out)
            (case side3 => repeat (first | exact (Kd.C_below HR160_11.out HB.out) | (with_reducible refine Kd.C_alloc ?_ _) | (with_reducible refine Kd.C_drewN ?_ _) | (with_reducible refine Kd.C_drew ?_)))
            (case side4 => exact HC160_11.out)
            rintro e w14 ⟨rfl, hb⟩
            refine ⟨_, rfl, ?_⟩
            have n0_ := Aside0.mk (blk_below (g := gb154) (o := .cells #[.int .i64 0, .string (⟨#[]⟩ : ByteArray)] 23 (0, 0)) (by (with_reducible repeat (first | refine blk_drewN ?_ _ | refine blk_drew ?_ | refine blk_alloc ?_ _)); exact BK154.out) hb)
            have n1_ := Aside0.mk (blk_below (g := gb157) (o := .cells #[.int .i64 x158000_1, .string x158001_1] 23 (0, 0)) (by (with_reducible repeat (first | refine blk_drewN ?_ _ | refine blk_drew ?_ | refine blk_alloc ?_ _)); exact BK157.out) hb)
            have n2_ := Aside0.mk (below_step (by repeat (first | (with_reducible first | exact HB.out | apply below_alloc | apply pw_below_drewN | apply below_drew1 | refine below_set ?_ GE154.out | refine below_set ?_ GE157.out) | exact HB.out)) hb)
            clear BK154
            clear BK157
            clear HB
            have BK154 := n0_
            have BK157 := n1_
            have HB := n2_
            clear n0_ n1_ n2_
            (try clear hb)
            (try clear hb2)
            (try clear hk)
            (try clear hi)
            refine hK.out _ _ ⟨(blk_cell BK157.out 0).trans rfl, (blk_cell BK157.out 1).trans rfl, ((HB.out.cell (World.block_lt_of_cell? w _ hw159_0)).trans hw159_0), ((HB.out.cell (World.block_lt_of_cell? w _ hw159_1)).trans hw159_1), ((HB.out.cell (World.block_lt_of_cell? w _ hw159_2)).trans hw159_2), ((HB.out.cell (World.block_lt_of_cell? w _ hw159_3)).trans hw159_3), ((HB.out.cell (World.block_lt_of_cell? w _ hw159_4)).trans hw159_4), ((HB.out.cell (World.block_lt_of_cell? w _ hw159_5)).trans hw159_5), ((HB.out.cell (World.block_lt_of_cell? w _ hw159_6)).trans hw159_6), ((HB.out.cell (World.block_lt_of_cell? w _ hw159_7)).trans hw159_7), ((HB.out.cell (World.block_lt_of_cell? w _ hw159_8)).trans hw159_8), ((HB.out.cell (World.block_lt_of_cell? w _ hw159_9)).trans hw159_9), ((HB.out.cell (World.block_lt_of_cell? w _ hw159_10)).trans hw159_10), ((HB.out.cell (World.block_lt_of_cell? w _ hw159_11)).trans hw159_11), ((HB.out.cell (World.block_lt_of_cell? w _ hw160_0)).trans hw160_0), ((HB.out.cell (World.block_lt_of_cell? w _ hw160_1)).trans hw160_1), ((HB.out.cell (World.block_lt_of_cell? w _ hw160_2)).trans hw160_2), ((HB.out.cell (World.block_lt_of_cell? w _ hw160_3)).trans hw160_3), ((HB.out.cell (World.block_lt_of_cell? w _ hw160_4)).trans hw160_4), ((HB.out.cell (World.block_lt_of_cell? w _ hw160_5)).trans hw160_5), ((HB.out.cell (World.block_lt_of_cell? w _ hw160_6)).trans hw160_6), ((HB.out.cell (World.block_lt_of_cell? w _ hw160_7)).trans hw160_7), ((HB.out.cell (World.block_lt_of_cell? w _ hw160_8)).trans hw160_8), ((HB.out.cell (World.block_lt_of_cell? w _ hw160_9)).trans hw160_9), ((HB.out.cell (World.block_lt_of_cell? w _ hw160_10)).trans hw160_10), ((HB.out.cell (World.block_lt_of_cell? w _ hw160_11)).trans hw160_11)⟩ (fun hHeld => ?_)
            clear hK K
            refine norm_ (a' := ?_) ?_ ?_
            rotate_left
            · show Act.put _ (some 33) _ = _
              simp only [Act.put, List.setIfInBounds_toArray, List.set_cons_zero, List.set_cons_succ, i64_w, i32_w]
              rfl
            refine last_ (i := 12) (N := none) #[true, true, true, true, true, true, true, true, true, true, true, true, true] rfl rfl (one_of HT_.out (by kernel_rfl)) (by decide) (fun K hK => ?_)
            have hs15 : w14.cell? ⟨gb157, 0, none⟩ = some (.int .i64 x158000_1) := (blk_cell BK157.out 0).trans rfl
            have hfs15 := blk_frozen BK157.out 0
            have hns15_0 := NB154_157.out
            have hms15_0 := NB157_154.out
            have hs16 : w14.cell? ⟨gb157, 1, none⟩ = some (.string x158001_1) := (blk_cell BK157.out 1).trans rfl
            have hfs16 := blk_frozen BK157.out 1
            have hns16_0 := NB154_157.out
            have hms16_0 := NB157_154.out
            refine skip_ (w1 := ?_) (by rfl) rfl ?_ ?_
            rotate_left
            · go_simp
              rfl
            refine hK.out _ _ ?_
            clear hK K
            refine done_ (done_of HT_.out (by kernel_rfl)) ?_
            try go_wp2
            go_roundg k1
            case measure => have := HK1.out; omega
            case rel => exact ⟨(wrap64 (x6_1 + 1)), (t161), (t162), (by first | rfl | (simp; done) | (simp [*]; done)), H', ⟨by have := HK1.out; omega⟩, ⟨by (with_reducible repeat (first | refine blk_drewN ?_ _ | refine blk_drew ?_ | refine blk_alloc ?_ _)); refine blk_far ?_ NB154_157.out _; (with_reducible repeat (first | refine blk_drewN ?_ _ | refine blk_drew ?_ | refine blk_alloc ?_ _)); refine blk_far ?_ NB154_157.out _; (with_reducible repeat (first | refine blk_drewN ?_ _ | refine blk_drew ?_ | refine blk_alloc ?_ _)); exact BK154.out⟩, ⟨by (with_reducible repeat (first | refine blk_drewN ?_ _ | refine blk_drew ?_ | refine blk_alloc ?_ _)); refine blk_put (cs := #[.int .i64 t161, .string x158001_1]) ?_ 1 _ rfl; (with_reducible repeat (first | refine blk_drewN ?_ _ | refine blk_drew ?_ | refine blk_alloc ?_ _)); refine blk_put (cs := #[.int .i64 x158000_1, .string x158001_1]) ?_ 0 _ rfl; (with_reducible repeat (first | refine blk_drewN ?_ _ | refine blk_drew ?_ | refine blk_alloc ?_ _)); exact BK157.out⟩, ⟨by repeat (first | (with_reducible first | exact HB.out | apply below_alloc | apply pw_below_drewN | apply below_drew1 | refine below_set ?_ GE154.out | refine below_set ?_ GE157.out) | exact HB.out)⟩⟩
          · rw [if_neg c11] at H
            have c11b0 : (((rd_T58 l0 x6_1).f1.f2) == a1) = false := beq_eq_false_iff_ne.mpr c11
            have c11b1 : (((rd_T58 l0 x6_1).f1.f2) != a1) = true := bne_iff_ne.mpr c11
            have H' := Aside0.mk H
            clear H
            have p158 : 0 ≤ (x6_1 : Int) := of_decide_eq_true (by first | (with_reducible assumption) | assumption)
            have q158 : x6_1 < (l0.length : Int) := of_decide_eq_true (by first | (with_reducible assumption) | assumption)
            obtain ⟨ad158, A158_10, c158_10, A158_11, c158_11, e158, hx158_0, hx158_1, hx158_2, hx158_3, hx158_4, hx158_5, hx158_6, hx158_7, hx158_8, hx158_9, hx158_10, hx158_11, hl158_10, hi158_10, hl158_11, hi158_11⟩ := at_T58 HR0.out x6_1 p158 q158
            cases e158
            replace hx158_0 := (HB.out.cell (World.block_lt_of_cell? w _ hx158_0)).trans hx158_0
            replace hx158_1 := (HB.out.cell (World.block_lt_of_cell? w _ hx158_1)).trans hx158_1
            replace hx158_2 := (HB.out.cell (World.block_lt_of_cell? w _ hx158_2)).trans hx158_2
            replace hx158_3 := (HB.out.cell (World.block_lt_of_cell? w _ hx158_3)).trans hx158_3
            replace hx158_4 := (HB.out.cell (World.block_lt_of_cell? w _ hx158_4)).trans hx158_4
            replace hx158_5 := (HB.out.cell (World.block_lt_of_cell? w _ hx158_5)).trans hx158_5
            replace hx158_6 := (HB.out.cell (World.block_lt_of_cell? w _ hx158_6)).trans hx158_6
            replace hx158_7 := (HB.out.cell (World.block_lt_of_cell? w _ hx158_7)).trans hx158_7
            replace hx158_8 := (HB.out.cell (World.block_lt_of_cell? w _ hx158_8)).trans hx158_8
            replace hx158_9 := (HB.out.cell (World.block_lt_of_cell? w _ hx158_9)).trans hx158_9
            replace hx158_10 := (HB.out.cell (World.block_lt_of_cell? w _ hx158_10)).trans hx158_10
            replace hx158_11 := (HB.out.cell (World.block_lt_of_cell? w _ hx158_11)).trans hx158_11
            have HR158_10 := Aside0.mk hi158_10
            have HC158_10 := Aside0.mk hl158_10
            clear hi158_10 hl158_10
            have HR158_11 := Aside0.mk hi158_11
            have HC158_11 := Aside0.mk hl158_11
            clear hi158_11 hl158_11
            replace p158 := eq_true p158
            replace q158 := eq_true q158
            go_wp2
            go_roundg k1
            case measure => have := HK1.out; omega
            case rel => exact ⟨(wrap64 (x6_1 + 1)), (x158000_1), (x158001_1), (by first | rfl | (simp; done) | (simp [*]; done)), H', ⟨by have := HK1.out; omega⟩, ⟨by (with_reducible repeat (first | refine blk_drewN ?_ _ | refine blk_drew ?_ | refine blk_alloc ?_ _)); exact BK154.out⟩, ⟨by (with_reducible repeat (first | refine blk_drewN ?_ _ | refine blk_drew ?_ | refine blk_alloc ?_ _)); exact BK157.out⟩, ⟨by repeat (first | (with_reducible first | exact HB.out | apply below_alloc | apply pw_below_drewN | apply below_drew1 | refine below_set ?_ GE154.out | refine below_set ?_ GE157.out) | exact HB.out)⟩⟩
        · rw [if_neg c10] at H
          exact absurd H (by simp)
      · rw [if_neg c9] at H
        have c9b0 : decide (x6_1 < (l0.length : Int)) = false := decide_eq_false c9
        clear c9
        simp only [Option.some.injEq, Prod.mk.injEq] at H
        obtain ⟨rfl, rfl⟩ := H
        have hnb17 := NB157_154.out
        have hnc17 := NB154_157.out
        have hcz18_0 : wr.cell? ⟨gb157, 0, none⟩ = some (.int .i64 x158000_1) := (blk_cell BK157.out 0).trans rfl
        have hcz18_1 : wr.cell? ⟨gb157, 1, none⟩ = some (.string x158001_1) := (blk_cell BK157.out 1).trans rfl
        have hfz18_0 := blk_frozen BK157.out 0
        have hfz18_1 := blk_frozen BK157.out 1
        have hcz19_0 : wr.cell? ⟨gb154, 0, none⟩ = some (.int .i64 0) := (blk_cell BK154.out 0).trans rfl
        have hcz19_1 : wr.cell? ⟨gb154, 1, none⟩ = some (.string (⟨#[]⟩ : ByteArray)) := (blk_cell BK154.out 1).trans rfl
        have hfz19_0 := blk_frozen BK154.out 0
        have hfz19_1 := blk_frozen BK154.out 1
        go_wp2
        refine bodyPost_ret (results_cell_row rfl _ _ gb154 23 #[.int .i64 x158000_1, .string x158001_1] (0, 0) _ rfl (by (with_reducible repeat (first | refine blk_drewN ?_ _ | refine blk_drew ?_ | refine blk_alloc ?_ _)); refine blk_put (cs := #[.int .i64 x158000_1, .string (⟨#[]⟩ : ByteArray)]) ?_ 1 _ rfl; (with_reducible repeat (first | refine blk_drewN ?_ _ | refine blk_drew ?_ | refine blk_alloc ?_ _)); refine blk_put (cs := #[.int .i64 0, .string (⟨#[]⟩ : ByteArray)]) ?_ 0 _ rfl; (with_reducible repeat (first | refine blk_drewN ?_ _ | refine blk_drew ?_ | refine blk_alloc ?_ _)); exact BK154.out) Try.underlying23 rfl (by kernel_rfl)) rfl ?_
        exact ⟨by first | rfl | (simp [errW_none, errW_some] <;> rfl) | (simp [*, errW_none, errW_some] <;> rfl), by repeat (first | (with_reducible first | exact HB.out | apply below_alloc | apply pw_below_drewN | apply below_drew1 | refine below_set ?_ GE154.out | refine below_set ?_ GE157.out) | exact HB.out)⟩

/-! ### careenlaw14_RedoDoes: function 8 -/
def careenlaw14_RedoDoes.j0 : Nat → List (S58) → Int → List (S23) → Int → Bool → Option (Bool)
  | 0, _, _, _, _, _ => none
  | k + 1, x0, x1, x2, x3, x21 => if x21 = true then ((careenlaw14_awake.f).bind fun t166 => (some t166)) else ((some (([] : List (S23)) : List (S23))).bind fun y167 => (if y167.length + x2.length < 5864062014805 then ((redo_Pages.f k x0 x1 (y167 ++ x2)).bind fun t173 => ((careenref14_Pages.f k x0 x1 x2).bind fun t176 => ((careenref14_Same.f k t173 t176).bind fun t179 => (if t179 = true then ((redo_One.f k x0 x3).bind fun bt180 => ((careenref14_One.f k x0 x3).bind fun bt182 => (if (bt180.1 == bt182.1 && (bt180.2.toList == bt182.2.toList)) = true then ((redo_Same.f k t173 x2).bind fun t184 => ((careenref14_Same.f k t173 x2).bind fun t185 => (some (t184 == t185)))) else (some false)))) else (some false))))) else (none)))
def careenlaw14_RedoDoes.f (k : Nat) (l0 : List (S58)) (a1 : Int) (l2 : List (S23)) (a3 : Int) : Option (Bool) := (careenlaw14_awake.f).bind fun t163 => (if t163 = true then ((careenref11_Few.f k l0).bind fun t164 => (if t164 = true then ((careenlaw14_few.f k l2).bind fun t165 => (careenlaw14_RedoDoes.j0 k l0 a1 l2 a3 (!t165))) else (careenlaw14_RedoDoes.j0 k l0 a1 l2 a3 true))) else (careenlaw14_RedoDoes.j0 k l0 a1 l2 a3 true))
theorem careenlaw14_RedoDoes.mono_l : ∀ k, (∀ y0 y1 y2 y3 y4, LeO (careenlaw14_RedoDoes.j0 k y0 y1 y2 y3 y4) (careenlaw14_RedoDoes.j0 (k + 1) y0 y1 y2 y3 y4))
  | 0 => fun _ _ _ _ _ r h => by simp [careenlaw14_RedoDoes.j0] at h
  | k + 1 => by
    have ih0 := careenlaw14_RedoDoes.mono_l k
    · intro y0 y1 y2 y3 y4
      unfold careenlaw14_RedoDoes.j0
      repeat' first
      | (with_reducible exact ih0 _ _ _ _ _)
      | (with_reducible exact careenlaw14_few.mono _ _)
      | (with_reducible exact careenref11_Few.mono _ _)
      | (with_reducible exact careenref14_One.mono _ _ _)
      | (with_reducible exact careenref14_Pages.mono _ _ _ _)
      | (with_reducible exact careenref14_Same.mono _ _ _)
      | (with_reducible exact redo_One.mono _ _ _)
      | (with_reducible exact redo_Pages.mono _ _ _ _)
      | (with_reducible exact redo_Same.mono _ _ _)
      | (with_reducible exact LeO.refl _)
      | (with_reducible exact LeO.none _)
      | (with_reducible refine LeO.ite ?_ ?_)
      | (with_reducible refine LeO.bind ?_ (fun _ => ?_))
      | exact ih0 _ _ _ _ _
      | exact careenlaw14_few.mono _ _
      | exact careenref11_Few.mono _ _
      | exact careenref14_One.mono _ _ _
      | exact careenref14_Pages.mono _ _ _ _
      | exact careenref14_Same.mono _ _ _
      | exact redo_One.mono _ _ _
      | exact redo_Pages.mono _ _ _ _
      | exact redo_Same.mono _ _ _
      | exact LeO.none _
      | refine LeO.ite ?_ ?_
      | refine LeO.bind ?_ (fun _ => ?_)
theorem careenlaw14_RedoDoes.mono : ∀ a0 a1 a2 a3 k, LeO (careenlaw14_RedoDoes.f k a0 a1 a2 a3) (careenlaw14_RedoDoes.f (k + 1) a0 a1 a2 a3) := by
  intro a0 a1 a2 a3 k
  have ih0 := careenlaw14_RedoDoes.mono_l k
  unfold careenlaw14_RedoDoes.f
  repeat' first
      | (with_reducible exact ih0 _ _ _ _ _)
      | (with_reducible exact careenlaw14_few.mono _ _)
      | (with_reducible exact careenref11_Few.mono _ _)
      | (with_reducible exact careenref14_One.mono _ _ _)
      | (with_reducible exact careenref14_Pages.mono _ _ _ _)
      | (with_reducible exact careenref14_Same.mono _ _ _)
      | (with_reducible exact redo_One.mono _ _ _)
      | (with_reducible exact redo_Pages.mono _ _ _ _)
      | (with_reducible exact redo_Same.mono _ _ _)
      | (with_reducible exact LeO.refl _)
      | (with_reducible exact LeO.none _)
      | (with_reducible refine LeO.ite ?_ ?_)
      | (with_reducible refine LeO.bind ?_ (fun _ => ?_))
      | exact ih0 _ _ _ _ _
      | exact careenlaw14_few.mono _ _
      | exact careenref11_Few.mono _ _
      | exact careenref14_One.mono _ _ _
      | exact careenref14_Pages.mono _ _ _ _
      | exact careenref14_Same.mono _ _ _
      | exact redo_One.mono _ _ _
      | exact redo_Pages.mono _ _ _ _
      | exact redo_Same.mono _ _ _
      | exact LeO.none _
      | refine LeO.ite ?_ ?_
      | refine LeO.bind ?_ (fun _ => ?_)
set_option maxHeartbeats 8000000 in
set_option maxRecDepth 100000 in
theorem careenlaw14_RedoDoes.calls (k : Nat) (A0 : Option Addr) (c0 : Nat) (l0 : List (S58)) (a1 : Int) (A2 : Option Addr) (c2 : Nat) (l2 : List (S23)) (a3 : Int) (r : Bool) (w : World) (hr0 : Kd.C k58 w A0 l0.length l0) (hc0 : l0.length ≤ c0) (hr2 : Kd.C k23 w A2 l2.length l2) (hc2 : l2.length ≤ c2) (h : careenlaw14_RedoDoes.f k l0 a1 l2 a3 = some r) :
    Calls Try.prog 8 #[.slice A0 l0.length c0, .int .i64 a1, .slice A2 l2.length c2, .int .i64 a3] w fun e w' => e = .returned (.bool r) ∧ Below w.heap.size w w' := by
  have HR0 := Aside0.mk hr0
  have HC0 := Aside0.mk hc0
  clear hr0 hc0
  have HR2 := Aside0.mk hr2
  have HC2 := Aside0.mk hc2
  clear hr2 hc2
  have HB := Aside0.mk (Below.refl w.heap.size w)
  have H : ((careenlaw14_awake.f).bind fun t163 => (if t163 = true then ((careenref11_Few.f k l0).bind fun t164 => (if t164 = true then ((careenlaw14_few.f k l2).bind fun t165 => (careenlaw14_RedoDoes.j0 k l0 a1 l2 a3 (!t165))) else (careenlaw14_RedoDoes.j0 k l0 a1 l2 a3 true))) else (careenlaw14_RedoDoes.j0 k l0 a1 l2 a3 true))) = some r := h
  clear h
  have HC5 := Aside0.mk H
  clear H
  go_enter Try.func8, Try.ntmps8
  go_upto_region 1 with (fail)
  go_cut [21] (fun v21 wc => ∃ (kq : Nat) (x21_4 : Bool), v21 = .bool x21_4 ∧ Aside0 (careenlaw14_RedoDoes.j0 kq l0 a1 l2 a3 x21_4 = some r) ∧ Aside0 (kq ≤ k) ∧ Aside0 (Below w.heap.size w wc))
  case first =>
    have H := HC5.out
    clear HC5
    replace H := Option.bind_eq_some_iff.mp H
    obtain ⟨t163, A60, H⟩ := H
    replace H : (if t163 = true then ((careenref11_Few.f k l0).bind fun t164 => (if t164 = true then ((careenlaw14_few.f k l2).bind fun t165 => (careenlaw14_RedoDoes.j0 k l0 a1 l2 a3 (!t165))) else (careenlaw14_RedoDoes.j0 k l0 a1 l2 a3 true))) else (careenlaw14_RedoDoes.j0 k l0 a1 l2 a3 true)) = some r := H
    have A6 := Aside0.mk A60
    clear A60
    by_cases c7 : t163 = true
    · subst c7
      have H1 : ((careenref11_Few.f k l0).bind fun t164 => (if t164 = true then ((careenlaw14_few.f k l2).bind fun t165 => (careenlaw14_RedoDoes.j0 k l0 a1 l2 a3 (!t165))) else (careenlaw14_RedoDoes.j0 k l0 a1 l2 a3 true))) = some r := by rw [if_pos rfl] at H; exact H
      clear H
      have H := H1
      clear H1
      replace H := Option.bind_eq_some_iff.mp H
      obtain ⟨t164, A80, H⟩ := H
      replace H : (if t164 = true then ((careenlaw14_few.f k l2).bind fun t165 => (careenlaw14_RedoDoes.j0 k l0 a1 l2 a3 (!t165))) else (careenlaw14_RedoDoes.j0 k l0 a1 l2 a3 true)) = some r := H
      have A8 := Aside0.mk A80
      clear A80
      by_cases c9 : t164 = true
      · subst c9
        have H1 : ((careenlaw14_few.f k l2).bind fun t165 => (careenlaw14_RedoDoes.j0 k l0 a1 l2 a3 (!t165))) = some r := by rw [if_pos rfl] at H; exact H
        clear H
        have H := H1
        clear H1
        replace H := Option.bind_eq_some_iff.mp H
        obtain ⟨t165, A100, H⟩ := H
        replace H : (careenlaw14_RedoDoes.j0 k l0 a1 l2 a3 (!t165)) = some r := H
        have A10 := Aside0.mk A100
        clear A100
        have H' := Aside0.mk H
        clear H
        go_wp2_with (first | ((with_reducible refine gate_callee (f := 27) rfl ?_); refine goesL_ (some 10) rfl rfl Try.func27 (by kernel_rfl) rfl #[] rfl (by (try simp only [List.map_toArray, List.map_cons, List.map_nil]); first | done | rfl | (simp only [List.length_drop, List.length_take]; rfl)) ?_; (with_reducible refine (careenlaw14_awake.calls  true _ A6.out).mono ?_); rintro e w11 ⟨rfl, hb⟩; refine ⟨_, rfl, ?_⟩; have n0_ := Aside0.mk (below_step (by repeat (first | (with_reducible first | exact HB.out | apply below_alloc | apply pw_below_drewN | apply below_drew1) | exact HB.out)) hb); clear HB; have HB := n0_; clear n0_; (try clear hb); (try clear hb2); (try clear hk); (try clear hi)) | (go_at_call 28; (with_reducible refine (careenref11_Few.calls k _ _ l0 true _ ?side1 ?side2 A8.out).mono ?_); (case side1 => repeat (first | exact (Kd.C_below HR0.out HB.out) | (with_reducible refine Kd.C_alloc ?_ _) | (with_reducible refine Kd.C_drewN ?_ _) | (with_reducible refine Kd.C_drew ?_))); (case side2 => exact HC0.out); rintro e w12 ⟨rfl, hb⟩; have n0_ := Aside0.mk (below_step (by repeat (first | (with_reducible first | exact HB.out | apply below_alloc | apply pw_below_drewN | apply below_drew1) | exact HB.out)) hb); clear HB; have HB := n0_; clear n0_; (try clear hb); (try clear hb2); (try clear hk); (try clear hi)) | (go_at_call 29; (with_reducible refine (careenlaw14_few.calls k _ _ l2 t165 _ ?side1 ?side2 A10.out).mono ?_); (case side1 => repeat (first | exact (Kd.C_below HR2.out HB.out) | (with_reducible refine Kd.C_alloc ?_ _) | (with_reducible refine Kd.C_drewN ?_ _) | (with_reducible refine Kd.C_drew ?_))); (case side2 => exact HC2.out); rintro e w13 ⟨rfl, hb⟩; have n0_ := Aside0.mk (below_step (by repeat (first | (with_reducible first | exact HB.out | apply below_alloc | apply pw_below_drewN | apply below_drew1) | exact HB.out)) hb); clear HB; have HB := n0_; clear n0_; (try clear hb); (try clear hb2); (try clear hk); (try clear hi)))
        go_meet
        case rel => exact ⟨_, (!t165), (by first | rfl | (simp; done) | (simp [*]; done)), H', ⟨by first | omega | exact Nat.le_refl _⟩, ⟨by repeat (first | (with_reducible first | exact HB.out | apply below_alloc | apply pw_below_drewN | apply below_drew1) | exact HB.out)⟩⟩
      · replace c9 := Bool.eq_false_iff.mpr c9
        subst c9
        have H1 : (careenlaw14_RedoDoes.j0 k l0 a1 l2 a3 true) = some r := by rw [if_neg (show ¬ (false = true) by decide)] at H; exact H
        clear H
        have H := H1
        clear H1
        have H' := Aside0.mk H
        clear H
        go_wp2_with (first | ((with_reducible refine gate_callee (f := 27) rfl ?_); refine goesL_ (some 10) rfl rfl Try.func27 (by kernel_rfl) rfl #[] rfl (by (try simp only [List.map_toArray, List.map_cons, List.map_nil]); first | done | rfl | (simp only [List.length_drop, List.length_take]; rfl)) ?_; (with_reducible refine (careenlaw14_awake.calls  true _ A6.out).mono ?_); rintro e w14 ⟨rfl, hb⟩; refine ⟨_, rfl, ?_⟩; have n0_ := Aside0.mk (below_step (by repeat (first | (with_reducible first | exact HB.out | apply below_alloc | apply pw_below_drewN | apply below_drew1) | exact HB.out)) hb); clear HB; have HB := n0_; clear n0_; (try clear hb); (try clear hb2); (try clear hk); (try clear hi)) | (go_at_call 28; (with_reducible refine (careenref11_Few.calls k _ _ l0 false _ ?side1 ?side2 A8.out).mono ?_); (case side1 => repeat (first | exact (Kd.C_below HR0.out HB.out) | (with_reducible refine Kd.C_alloc ?_ _) | (with_reducible refine Kd.C_drewN ?_ _) | (with_reducible refine Kd.C_drew ?_))); (case side2 => exact HC0.out); rintro e w15 ⟨rfl, hb⟩; have n0_ := Aside0.mk (below_step (by repeat (first | (with_reducible first | exact HB.out | apply below_alloc | apply pw_below_drewN | apply below_drew1) | exact HB.out)) hb); clear HB; have HB := n0_; clear n0_; (try clear hb); (try clear hb2); (try clear hk); (try clear hi)))
        go_meet
        case rel => exact ⟨_, (true), (by first | rfl | (simp; done) | (simp [*]; done)), H', ⟨by first | omega | exact Nat.le_refl _⟩, ⟨by repeat (first | (with_reducible first | exact HB.out | apply below_alloc | apply pw_below_drewN | apply below_drew1) | exact HB.out)⟩⟩
    · replace c7 := Bool.eq_false_iff.mpr c7
      subst c7
      have H1 : (careenlaw14_RedoDoes.j0 k l0 a1 l2 a3 true) = some r := by rw [if_neg (show ¬ (false = true) by decide)] at H; exact H
      clear H
      have H := H1
      clear H1
      have H' := Aside0.mk H
      clear H
      go_wp2_with (first | ((with_reducible refine gate_callee (f := 27) rfl ?_); refine goesL_ (some 10) rfl rfl Try.func27 (by kernel_rfl) rfl #[] rfl (by (try simp only [List.map_toArray, List.map_cons, List.map_nil]); first | done | rfl | (simp only [List.length_drop, List.length_take]; rfl)) ?_; (with_reducible refine (careenlaw14_awake.calls  false _ A6.out).mono ?_); rintro e w16 ⟨rfl, hb⟩; refine ⟨_, rfl, ?_⟩; have n0_ := Aside0.mk (below_step (by repeat (first | (with_reducible first | exact HB.out | apply below_alloc | apply pw_below_drewN | apply below_drew1) | exact HB.out)) hb); clear HB; have HB := n0_; clear n0_; (try clear hb); (try clear hb2); (try clear hk); (try clear hi)))
      go_meet
      case rel => exact ⟨_, (true), (by first | rfl | (simp; done) | (simp [*]; done)), H', ⟨by first | omega | exact Nat.le_refl _⟩, ⟨by repeat (first | (with_reducible first | exact HB.out | apply below_alloc | apply pw_below_drewN | apply below_drew1) | exact HB.out)⟩⟩
  case rest =>
    clear HC5
    try clear c2
    try clear p2
    try clear c7
    try clear c8
    try clear c9
    obtain ⟨kq, x21_4, rfl, HA, HJ4, HB⟩ := hcut
    cases kq with
    | zero => exact absurd HA.out (by simp [careenlaw14_RedoDoes.j0])
    | succ kj4 =>
      have H := HA.out
      clear HA
      simp only [careenlaw14_RedoDoes.j0] at H
      by_cases c17 : x21_4 = true
      · subst c17
        have H1 : ((careenlaw14_awake.f).bind fun t166 => (some t166)) = some r := by rw [if_pos rfl] at H; exact H
        clear H
        have H := H1
        clear H1
        replace H := Option.bind_eq_some_iff.mp H
        obtain ⟨t166, A180, H⟩ := H
        replace H : (some t166) = some r := H
        have A18 := Aside0.mk A180
        clear A180
        obtain rfl := Option.some.inj H
        go_wp2_with (first | ((with_reducible refine gate_callee (f := 27) rfl ?_); refine goesL_ (some 22) rfl rfl Try.func27 (by kernel_rfl) rfl #[] rfl (by (try simp only [List.map_toArray, List.map_cons, List.map_nil]); first | done | rfl | (simp only [List.length_drop, List.length_take]; rfl)) ?_; (with_reducible refine (careenlaw14_awake.calls  t166 _ A18.out).mono ?_); rintro e w19 ⟨rfl, hb⟩; refine ⟨_, rfl, ?_⟩; have n0_ := Aside0.mk (below_step (by repeat (first | (with_reducible first | exact HB.out | apply below_alloc | apply pw_below_drewN | apply below_drew1) | exact HB.out)) hb); clear HB; have HB := n0_; clear n0_; (try clear hb); (try clear hb2); (try clear hk); (try clear hi)))
        go_ret
        exact ⟨by first | rfl | (simp [errW_none, errW_some] <;> rfl) | (simp [*, errW_none, errW_some] <;> rfl), by repeat (first | (with_reducible first | exact HB.out | apply below_alloc | apply pw_below_drewN | apply below_drew1) | exact HB.out)⟩
      · replace c17 := Bool.eq_false_iff.mpr c17
        subst c17
        have H1 : ((some (([] : List (S23)) : List (S23))).bind fun y167 => (if y167.length + l2.length < 5864062014805 then ((redo_Pages.f kj4 l0 a1 (y167 ++ l2)).bind fun t173 => ((careenref14_Pages.f kj4 l0 a1 l2).bind fun t176 => ((careenref14_Same.f kj4 t173 t176).bind fun t179 => (if t179 = true then ((redo_One.f kj4 l0 a3).bind fun bt180 => ((careenref14_One.f kj4 l0 a3).bind fun bt182 => (if (bt180.1 == bt182.1 && (bt180.2.toList == bt182.2.toList)) = true then ((redo_Same.f kj4 t173 l2).bind fun t184 => ((careenref14_Same.f kj4 t173 l2).bind fun t185 => (some (t184 == t185)))) else (some false)))) else (some false))))) else (none))) = some r := by rw [if_neg (show ¬ (false = true) by decide)] at H; exact H
        clear H
        have H := H1
        clear H1
        obtain ⟨y167, hy167⟩ : ∃ y_ : List (S23), y_ = (([] : List (S23))) := ⟨_, rfl⟩
        replace H : (if y167.length + l2.length < 5864062014805 then ((redo_Pages.f kj4 l0 a1 (y167 ++ l2)).bind fun t173 => ((careenref14_Pages.f kj4 l0 a1 l2).bind fun t176 => ((careenref14_Same.f kj4 t173 t176).bind fun t179 => (if t179 = true then ((redo_One.f kj4 l0 a3).bind fun bt180 => ((careenref14_One.f kj4 l0 a3).bind fun bt182 => (if (bt180.1 == bt182.1 && (bt180.2.toList == bt182.2.toList)) = true then ((redo_Same.f kj4 t173 l2).bind fun t184 => ((careenref14_Same.f kj4 t173 l2).bind fun t185 => (some (t184 == t185)))) else (some false)))) else (some false))))) else (none)) = some r := by first | (rw [hy167]; with_reducible exact H) | (have H2_ := (Option.bind_some _ _).symm.trans H; rw [hy167]; with_reducible exact H2_) | (have H2_ := (Option.bind_some _ _).symm.trans H; with_reducible exact H2_) | with_reducible exact H | (rw [hy167]; exact H) | exact H
        have Ny167 := Aside0.mk hy167
        clear hy167
        by_cases c20 : y167.length + l2.length < 5864062014805
        · rw [if_pos c20] at H
          have LMc20 := Aside0.mk c20
          clear c20
          obtain ⟨y170, hy170⟩ : ∃ y_ : List (S23), y_ = (y167 ++ l2) := ⟨_, rfl⟩
          replace H : ((redo_Pages.f kj4 l0 a1 y170).bind fun t173 => ((careenref14_Pages.f kj4 l0 a1 l2).bind fun t176 => ((careenref14_Same.f kj4 t173 t176).bind fun t179 => (if t179 = true then ((redo_One.f kj4 l0 a3).bind fun bt180 => ((careenref14_One.f kj4 l0 a3).bind fun bt182 => (if (bt180.1 == bt182.1 && (bt180.2.toList == bt182.2.toList)) = true then ((redo_Same.f kj4 t173 l2).bind fun t184 => ((careenref14_Same.f kj4 t173 l2).bind fun t185 => (some (t184 == t185)))) else (some false)))) else (some false))))) = some r := by first | (rw [hy170]; with_reducible exact H) | (have H2_ := (Option.bind_some _ _).symm.trans H; rw [hy170]; with_reducible exact H2_) | (have H2_ := (Option.bind_some _ _).symm.trans H; with_reducible exact H2_) | with_reducible exact H | (rw [hy170]; exact H) | exact H
          have Ny170 := Aside0.mk hy170
          clear hy170
          replace H := Option.bind_eq_some_iff.mp H
          obtain ⟨t173, A210, H⟩ := H
          replace H : ((careenref14_Pages.f kj4 l0 a1 l2).bind fun t176 => ((careenref14_Same.f kj4 t173 t176).bind fun t179 => (if t179 = true then ((redo_One.f kj4 l0 a3).bind fun bt180 => ((careenref14_One.f kj4 l0 a3).bind fun bt182 => (if (bt180.1 == bt182.1 && (bt180.2.toList == bt182.2.toList)) = true then ((redo_Same.f kj4 t173 l2).bind fun t184 => ((careenref14_Same.f kj4 t173 l2).bind fun t185 => (some (t184 == t185)))) else (some false)))) else (some false)))) = some r := H
          have A21 := Aside0.mk A210
          clear A210
          replace H := Option.bind_eq_some_iff.mp H
          obtain ⟨t176, A220, H⟩ := H
          replace H : ((careenref14_Same.f kj4 t173 t176).bind fun t179 => (if t179 = true then ((redo_One.f kj4 l0 a3).bind fun bt180 => ((careenref14_One.f kj4 l0 a3).bind fun bt182 => (if (bt180.1 == bt182.1 && (bt180.2.toList == bt182.2.toList)) = true then ((redo_Same.f kj4 t173 l2).bind fun t184 => ((careenref14_Same.f kj4 t173 l2).bind fun t185 => (some (t184 == t185)))) else (some false)))) else (some false))) = some r := H
          have A22 := Aside0.mk A220
          clear A220
          replace H := Option.bind_eq_some_iff.mp H
          obtain ⟨t179, A230, H⟩ := H
          replace H : (if t179 = true then ((redo_One.f kj4 l0 a3).bind fun bt180 => ((careenref14_One.f kj4 l0 a3).bind fun bt182 => (if (bt180.1 == bt182.1 && (bt180.2.toList == bt182.2.toList)) = true then ((redo_Same.f kj4 t173 l2).bind fun t184 => ((careenref14_Same.f kj4 t173 l2).bind fun t185 => (some (t184 == t185)))) else (some false)))) else (some false)) = some r := H
          have A23 := Aside0.mk A230
          clear A230
          by_cases c24 : t179 = true
          · subst c24
            have H1 : ((redo_One.f kj4 l0 a3).bind fun bt180 => ((careenref14_One.f kj4 l0 a3).bind fun bt182 => (if (bt180.1 == bt182.1 && (bt180.2.toList == bt182.2.toList)) = true then ((redo_Same.f kj4 t173 l2).bind fun t184 => ((careenref14_Same.f kj4 t173 l2).bind fun t185 => (some (t184 == t185)))) else (some false)))) = some r := by rw [if_pos rfl] at H; exact H
            clear H
            have H := H1
            clear H1
            replace H := Option.bind_eq_some_iff.mp H
            obtain ⟨⟨t180, t181⟩, A250, H⟩ := H
            replace H : ((careenref14_One.f kj4 l0 a3).bind fun bt182 => (if (t180 == bt182.1 && (t181.toList == bt182.2.toList)) = true then ((redo_Same.f kj4 t173 l2).bind fun t184 => ((careenref14_Same.f kj4 t173 l2).bind fun t185 => (some (t184 == t185)))) else (some false))) = some r := H
            have A25 := Aside0.mk A250
            clear A250
            replace H := Option.bind_eq_some_iff.mp H
            obtain ⟨⟨t182, t183⟩, A260, H⟩ := H
            replace H : (if (t180 == t182 && (t181.toList == t183.toList)) = true then ((redo_Same.f kj4 t173 l2).bind fun t184 => ((careenref14_Same.f kj4 t173 l2).bind fun t185 => (some (t184 == t185)))) else (some false)) = some r := H
            have A26 := Aside0.mk A260
            clear A260
            by_cases c27 : (t180 == t182 && (t181.toList == t183.toList)) = true
            · rw [if_pos c27] at H
              have c27b0 : (t180 == t182 && (t181.toList == t183.toList)) = true := c27
              (try (have c27b1 : decide (t180 = t182 && (t181.toList == t183.toList)) = true := by simpa using c27))
              (try (have c27b2 : (t180 == t182 && (t181.toList == t183.toList)) = true := by simpa using c27))
              clear c27
              replace H := Option.bind_eq_some_iff.mp H
              obtain ⟨t184, A280, H⟩ := H
              replace H : ((careenref14_Same.f kj4 t173 l2).bind fun t185 => (some (t184 == t185))) = some r := H
              have A28 := Aside0.mk A280
              clear A280
              replace H := Option.bind_eq_some_iff.mp H
              obtain ⟨t185, A290, H⟩ := H
              replace H : (some (t184 == t185)) = some r := H
              have A29 := Aside0.mk A290
              clear A290
              obtain rfl := Option.some.inj H
              go_wp2_with (first | ((with_reducible refine gate_dst (N := 25) rfl ?_); refine Kd.R_lit k23 _ 23 ?hg (N := 25) ?hd (xs := ([] : List (S23))) (inner := []) (ok := fun _ => True) (okp := fun _ => True) ?hr ?hp (fun _ hk => hk) trivial (Below.refl _ _) (Nat.le_refl _) (by simp) ?_; (case hd => rfl); (case hg => rfl); (case hr => first | (go_simp; done) | (go_simp; rfl)); (case hp => exact (Reps.none _ _)); intro v168 w30 ho31 hb hg_ hnew_; clear hg_ hnew_; (first | rw [← Ny167.out] at ho31 | (simp only [Int.reduceToNat] at ho31; rw [← Ny167.out] at ho31)); have n0_ := Aside0.mk (Kd.R_lower ho31 (below_size (by repeat (first | (with_reducible first | exact HB.out | apply below_alloc | apply pw_below_drewN | apply below_drew1) | exact HB.out)))); have n1_ := Aside0.mk (below_step (by repeat (first | (with_reducible first | exact HB.out | apply below_alloc | apply pw_below_drewN | apply below_drew1) | exact HB.out)) hb); clear HB; have HO169 := n0_; have HB := n1_; clear n0_ n1_; clear hb ho31) | ((with_reducible refine gate_builtin (b := .append) (xs := #[.tmp 25, .tmp 26]) rfl ?_); at_builtin; refine Kd.R_append_rows k23 (w0 := w) w.heap.size rfl (.tmp 25) (.tmp 26) 49 23 (.agg #[(.int .i64 0), (.string ⟨#[]⟩)]) 24 rfl Try.underlying49 info23 rfl (by decide) (by omega) v168 y167 l2 _ _ _ (fun _ => True) (fun _ => False) rfl rfl ?aO ?aR (fun _ _ h => h) (fun _ h => h.elim) ?aF ?aB ?aS ?aL ?_; (case aR => repeat (first | exact (Kd.C_below HR2.out HB.out) | (with_reducible refine Kd.C_alloc ?_ _) | (with_reducible refine Kd.C_drewN ?_ _) | (with_reducible refine Kd.C_drew ?_))); (case aB => exact (by repeat (first | (with_reducible first | exact HB.out | apply below_alloc | apply pw_below_drewN | apply below_drew1) | exact HB.out))); (case aF => exact (fun _ _ => trivial)); (case aO => exact (by (with_reducible repeat (first | apply Kd.R_alloc | apply Kd.R_drewN | apply Kd.R_drew)); exact HO169.out)); (case aS => exact (below_size (by repeat (first | (with_reducible first | exact HB.out | apply below_alloc | apply pw_below_drewN | apply below_drew1) | exact HB.out)))); (case aL => have := LMc20.out; omega); intro v171 w32 ho hb hg hat; rw [← Ny170.out] at ho; have n0_ := Aside0.mk (hb); have n1_ := Aside0.mk (ho); clear HB; clear HO169; have HB := n0_; have HO172 := n1_; clear n0_ n1_; clear ho hb hg hat; obtain ⟨Ao33, co33, eo33⟩ := Kd.R_slice HO172.out; subst eo33) | ((with_reducible refine gate_callee (f := 30) rfl ?_); refine goesL_ (some 28) rfl rfl Try.func30 (by kernel_rfl) rfl #[.slice A0 l0.length c0, .int .i64 a1, .slice Ao33 y170.length co33] rfl (by (try simp only [List.map_toArray, List.map_cons, List.map_nil]); first | done | rfl | (simp only [List.length_drop, List.length_take]; rfl)) ?_; (with_reducible refine (redo_Pages.calls kj4 _ _ l0 a1 _ _ y170 t173 _ ?side1 ?side2 ?side3 ?side4 A21.out).mono ?_); (case side1 => repeat (first | exact (Kd.C_below HR0.out HB.out) | (with_reducible refine Kd.C_alloc ?_ _) | (with_reducible refine Kd.C_drewN ?_ _) | (with_reducible refine Kd.C_drew ?_))); (case side2 => exact HC0.out); (case side3 => repeat (first | exact (Kd.R_reads' HO172.out).2.2 | (with_reducible refine Kd.C_alloc ?_ _) | (with_reducible refine Kd.C_drewN ?_ _) | (with_reducible refine Kd.C_drew ?_))); (case side4 => exact (Kd.R_reads' HO172.out).2.1); rintro e w34 ⟨v174, rfl, ho0, hb⟩; refine ⟨_, rfl, ?_⟩; have n0_ := Aside0.mk (Kd.R_elder' (by (with_reducible repeat (first | apply Kd.R_alloc | apply Kd.R_drewN | apply Kd.R_drew)); exact HO172.out) (Kd.R_base ho0) hb); have n1_ := Aside0.mk (Kd.R_lower (Kd.R_new' ho0 (Kd.R_lt (by (with_reducible repeat (first | apply Kd.R_alloc | apply Kd.R_drewN | apply Kd.R_drew)); exact HO172.out))) (below_size (by repeat (first | (with_reducible first | exact HB.out | apply below_alloc | apply pw_below_drewN | apply below_drew1) | exact HB.out)))); have n2_ := Aside0.mk (below_step (by repeat (first | (with_reducible first | exact HB.out | apply below_alloc | apply pw_below_drewN | apply below_drew1) | exact HB.out)) hb); clear HO172; clear HB; have HO172 := n0_; have HO175 := n1_; have HB := n2_; clear n0_ n1_ n2_; (try clear hb); (try clear hb2); (try clear hk); (try clear hi); (try clear ho0)) | ((with_reducible refine gate_callee (f := 32) rfl ?_); refine goesL_ (some 33) rfl rfl Try.func32 (by kernel_rfl) rfl #[.slice A0 l0.length c0, .int .i64 a1, .slice A2 l2.length c2] rfl (by (try simp only [List.map_toArray, List.map_cons, List.map_nil]); first | done | rfl | (simp only [List.length_drop, List.length_take]; rfl)) ?_; (with_reducible refine (careenref14_Pages.calls kj4 _ _ l0 a1 _ _ l2 t176 _ ?side1 ?side2 ?side3 ?side4 A22.out).mono ?_); (case side1 => repeat (first | exact (Kd.C_below HR0.out HB.out) | (with_reducible refine Kd.C_alloc ?_ _) | (with_reducible refine Kd.C_drewN ?_ _) | (with_reducible refine Kd.C_drew ?_))); (case side2 => exact HC0.out); (case side3 => repeat (first | exact (Kd.C_below HR2.out HB.out) | (with_reducible refine Kd.C_alloc ?_ _) | (with_reducible refine Kd.C_drewN ?_ _) | (with_reducible refine Kd.C_drew ?_))); (case side4 => exact HC2.out); rintro e w35 ⟨v177, rfl, ho0, hb⟩; refine ⟨_, rfl, ?_⟩; have n0_ := Aside0.mk (Kd.R_elder' (by (with_reducible repeat (first | apply Kd.R_alloc | apply Kd.R_drewN | apply Kd.R_drew)); exact HO172.out) (Kd.R_base ho0) hb); have n1_ := Aside0.mk (Kd.R_elder' (by (with_reducible repeat (first | apply Kd.R_alloc | apply Kd.R_drewN | apply Kd.R_drew)); exact HO175.out) (Kd.R_base ho0) hb); have n2_ := Aside0.mk (Kd.R_lower (Kd.R_new' (Kd.R_new' ho0 (Kd.R_lt (by (with_reducible repeat (first | apply Kd.R_alloc | apply Kd.R_drewN | apply Kd.R_drew)); exact HO172.out))) (Kd.R_lt (by (with_reducible repeat (first | apply Kd.R_alloc | apply Kd.R_drewN | apply Kd.R_drew)); exact HO175.out))) (below_size (by repeat (first | (with_reducible first | exact HB.out | apply below_alloc | apply pw_below_drewN | apply below_drew1) | exact HB.out)))); have n3_ := Aside0.mk (below_step (by repeat (first | (with_reducible first | exact HB.out | apply below_alloc | apply pw_below_drewN | apply below_drew1) | exact HB.out)) hb); clear HO172; clear HO175; clear HB; have HO172 := n0_; have HO175 := n1_; have HO178 := n2_; have HB := n3_; clear n0_ n1_ n2_ n3_; (try clear hb); (try clear hb2); (try clear hk); (try clear hi); (try clear ho0); obtain ⟨Ao36, co36, eo36⟩ := Kd.R_slice HO175.out; subst eo36; obtain ⟨Ao37, co37, eo37⟩ := Kd.R_slice HO178.out; subst eo37) | ((with_reducible refine gate_callee (f := 31) rfl ?_); refine goesL_ (some 34) rfl rfl Try.func31 (by kernel_rfl) rfl #[.slice Ao36 t173.length co36, .slice Ao37 t176.length co37] rfl (by (try simp only [List.map_toArray, List.map_cons, List.map_nil]); first | done | rfl | (simp only [List.length_drop, List.length_take]; rfl)) ?_; (with_reducible refine (careenref14_Same.calls kj4 _ _ t173 _ _ t176 true _ ?side1 ?side2 ?side3 ?side4 A23.out).mono ?_); (case side1 => repeat (first | exact (Kd.R_reads' HO175.out).2.2 | (with_reducible refine Kd.C_alloc ?_ _) | (with_reducible refine Kd.C_drewN ?_ _) | (with_reducible refine Kd.C_drew ?_))); (case side2 => exact (Kd.R_reads' HO175.out).2.1); (case side3 => repeat (first | exact (Kd.R_reads' HO178.out).2.2 | (with_reducible refine Kd.C_alloc ?_ _) | (with_reducible refine Kd.C_drewN ?_ _) | (with_reducible refine Kd.C_drew ?_))); (case side4 => exact (Kd.R_reads' HO178.out).2.1); rintro e w' ⟨rfl, ⟨nd, rfl⟩⟩; refine ⟨_, rfl, ?_⟩) | (go_at_call 33; (with_reducible refine (redo_One.calls kj4 _ _ l0 a3 t180 t181 _ ?side1 ?side2 A25.out).mono ?_); (case side1 => repeat (first | exact (Kd.C_below HR0.out (by repeat (first | (with_reducible first | exact HB.out | apply below_alloc | apply pw_below_drewN | apply below_drew1) | exact HB.out))) | (with_reducible refine Kd.C_alloc ?_ _) | (with_reducible refine Kd.C_drewN ?_ _) | (with_reducible refine Kd.C_drew ?_))); (case side2 => exact HC0.out); rintro e w38 ⟨rfl, hb⟩; have n0_ := Aside0.mk (Kd.R_below (by (with_reducible repeat (first | apply Kd.R_alloc | apply Kd.R_drewN | apply Kd.R_drew)); exact HO172.out) hb); have n1_ := Aside0.mk (Kd.R_below (by (with_reducible repeat (first | apply Kd.R_alloc | apply Kd.R_drewN | apply Kd.R_drew)); exact HO175.out) hb); have n2_ := Aside0.mk (Kd.R_below (by (with_reducible repeat (first | apply Kd.R_alloc | apply Kd.R_drewN | apply Kd.R_drew)); exact HO178.out) hb); have n3_ := Aside0.mk (below_step (by repeat (first | (with_reducible first | exact HB.out | apply below_alloc | apply pw_below_drewN | apply below_drew1) | exact HB.out)) hb); clear HO172; clear HO175; clear HO178; clear HB; have HO172 := n0_; have HO175 := n1_; have HO178 := n2_; have HB := n3_; clear n0_ n1_ n2_ n3_; (try clear hb); (try clear hb2); (try clear hk); (try clear hi)) | (go_at_call 34; (with_reducible refine (careenref14_One.calls kj4 _ _ l0 a3 t182 t183 _ ?side1 ?side2 A26.out).mono ?_); (case side1 => repeat (first | exact (Kd.C_below HR0.out HB.out) | (with_reducible refine Kd.C_alloc ?_ _) | (with_reducible refine Kd.C_drewN ?_ _) | (with_reducible refine Kd.C_drew ?_))); (case side2 => exact HC0.out); rintro e w39 ⟨rfl, hb⟩; have n0_ := Aside0.mk (Kd.R_below (by (with_reducible repeat (first | apply Kd.R_alloc | apply Kd.R_drewN | apply Kd.R_drew)); exact HO172.out) hb); have n1_ := Aside0.mk (Kd.R_below (by (with_reducible repeat (first | apply Kd.R_alloc | apply Kd.R_drewN | apply Kd.R_drew)); exact HO175.out) hb); have n2_ := Aside0.mk (Kd.R_below (by (with_reducible repeat (first | apply Kd.R_alloc | apply Kd.R_drewN | apply Kd.R_drew)); exact HO178.out) hb); have n3_ := Aside0.mk (below_step (by repeat (first | (with_reducible first | exact HB.out | apply below_alloc | apply pw_below_drewN | apply below_drew1) | exact HB.out)) hb); clear HO172; clear HO175; clear HO178; clear HB; have HO172 := n0_; have HO175 := n1_; have HO178 := n2_; have HB := n3_; clear n0_ n1_ n2_ n3_; (try clear hb); (try clear hb2); (try clear hk); (try clear hi)) | (go_at_call 35; (with_reducible refine (redo_Same.calls kj4 _ _ t173 _ _ l2 t184 _ ?side1 ?side2 ?side3 ?side4 A28.out).mono ?_); (case side1 => repeat (first | exact (Kd.R_reads' HO175.out).2.2 | (with_reducible refine Kd.C_alloc ?_ _) | (with_reducible refine Kd.C_drewN ?_ _) | (with_reducible refine Kd.C_drew ?_))); (case side2 => exact (Kd.R_reads' HO175.out).2.1); (case side3 => repeat (first | exact (Kd.C_below HR2.out HB.out) | (with_reducible refine Kd.C_alloc ?_ _) | (with_reducible refine Kd.C_drewN ?_ _) | (with_reducible refine Kd.C_drew ?_))); (case side4 => exact HC2.out); rintro e w' ⟨rfl, ⟨nd, rfl⟩⟩) | (go_at_call 31; (with_reducible refine (careenref14_Same.calls kj4 _ _ t173 _ _ l2 t185 _ ?side1 ?side2 ?side3 ?side4 A29.out).mono ?_); (case side1 => repeat (first | exact (Kd.R_reads' HO175.out).2.2 | (with_reducible refine Kd.C_alloc ?_ _) | (with_reducible refine Kd.C_drewN ?_ _) | (with_reducible refine Kd.C_drew ?_))); (case side2 => exact (Kd.R_reads' HO175.out).2.1); (case side3 => repeat (first | exact (Kd.C_below HR2.out (by repeat (first | (with_reducible first | exact HB.out | apply below_alloc | apply pw_below_drewN | apply below_drew1) | exact HB.out))) | (with_reducible refine Kd.C_alloc ?_ _) | (with_reducible refine Kd.C_drewN ?_ _) | (with_reducible refine Kd.C_drew ?_))); (case side4 => exact HC2.out); rintro e w' ⟨rfl, ⟨nd, rfl⟩⟩))
              go_ret
              exact ⟨by first | rfl | (simp [errW_none, errW_some] <;> rfl) | (simp [*, errW_none, errW_some] <;> rfl), by repeat (first | (with_reducible first | exact HB.out | apply below_alloc | apply pw_below_drewN | apply below_drew1) | exact HB.out)⟩
            · rw [if_neg c27] at H
              have c27b0 : (t180 == t182 && (t181.toList == t183.toList)) = false := by simpa using c27
              (try (have c27b1 : decide (t180 = t182 && (t181.toList == t183.toList)) = false := by simpa using c27))
              (try (have c27b2 : (t180 == t182 && (t181.toList == t183.toList)) = false := by simpa using c27))
              (try (have c27b3 : ¬ (t180 = t182 && (t181.toList == t183.toList)) := by simpa using c27))
              clear c27
              obtain rfl := Option.some.inj H
              go_wp2_with (first | ((with_reducible refine gate_dst (N := 25) rfl ?_); refine Kd.R_lit k23 _ 23 ?hg (N := 25) ?hd (xs := ([] : List (S23))) (inner := []) (ok := fun _ => True) (okp := fun _ => True) ?hr ?hp (fun _ hk => hk) trivial (Below.refl _ _) (Nat.le_refl _) (by simp) ?_; (case hd => rfl); (case hg => rfl); (case hr => first | (go_simp; done) | (go_simp; rfl)); (case hp => exact (Reps.none _ _)); intro v168 w40 ho41 hb hg_ hnew_; clear hg_ hnew_; (first | rw [← Ny167.out] at ho41 | (simp only [Int.reduceToNat] at ho41; rw [← Ny167.out] at ho41)); have n0_ := Aside0.mk (Kd.R_lower ho41 (below_size (by repeat (first | (with_reducible first | exact HB.out | apply below_alloc | apply pw_below_drewN | apply below_drew1) | exact HB.out)))); have n1_ := Aside0.mk (below_step (by repeat (first | (with_reducible first | exact HB.out | apply below_alloc | apply pw_below_drewN | apply below_drew1) | exact HB.out)) hb); clear HB; have HO169 := n0_; have HB := n1_; clear n0_ n1_; clear hb ho41) | ((with_reducible refine gate_builtin (b := .append) (xs := #[.tmp 25, .tmp 26]) rfl ?_); at_builtin; refine Kd.R_append_rows k23 (w0 := w) w.heap.size rfl (.tmp 25) (.tmp 26) 49 23 (.agg #[(.int .i64 0), (.string ⟨#[]⟩)]) 24 rfl Try.underlying49 info23 rfl (by decide) (by omega) v168 y167 l2 _ _ _ (fun _ => True) (fun _ => False) rfl rfl ?aO ?aR (fun _ _ h => h) (fun _ h => h.elim) ?aF ?aB ?aS ?aL ?_; (case aR => repeat (first | exact (Kd.C_below HR2.out HB.out) | (with_reducible refine Kd.C_alloc ?_ _) | (with_reducible refine Kd.C_drewN ?_ _) | (with_reducible refine Kd.C_drew ?_))); (case aB => exact (by repeat (first | (with_reducible first | exact HB.out | apply below_alloc | apply pw_below_drewN | apply below_drew1) | exact HB.out))); (case aF => exact (fun _ _ => trivial)); (case aO => exact (by (with_reducible repeat (first | apply Kd.R_alloc | apply Kd.R_drewN | apply Kd.R_drew)); exact HO169.out)); (case aS => exact (below_size (by repeat (first | (with_reducible first | exact HB.out | apply below_alloc | apply pw_below_drewN | apply below_drew1) | exact HB.out)))); (case aL => have := LMc20.out; omega); intro v171 w42 ho hb hg hat; rw [← Ny170.out] at ho; have n0_ := Aside0.mk (hb); have n1_ := Aside0.mk (ho); clear HB; clear HO169; have HB := n0_; have HO172 := n1_; clear n0_ n1_; clear ho hb hg hat; obtain ⟨Ao43, co43, eo43⟩ := Kd.R_slice HO172.out; subst eo43) | ((with_reducible refine gate_callee (f := 30) rfl ?_); refine goesL_ (some 28) rfl rfl Try.func30 (by kernel_rfl) rfl #[.slice A0 l0.length c0, .int .i64 a1, .slice Ao43 y170.length co43] rfl (by (try simp only [List.map_toArray, List.map_cons, List.map_nil]); first | done | rfl | (simp only [List.length_drop, List.length_take]; rfl)) ?_; (with_reducible refine (redo_Pages.calls kj4 _ _ l0 a1 _ _ y170 t173 _ ?side1 ?side2 ?side3 ?side4 A21.out).mono ?_); (case side1 => repeat (first | exact (Kd.C_below HR0.out HB.out) | (with_reducible refine Kd.C_alloc ?_ _) | (with_reducible refine Kd.C_drewN ?_ _) | (with_reducible refine Kd.C_drew ?_))); (case side2 => exact HC0.out); (case side3 => repeat (first | exact (Kd.R_reads' HO172.out).2.2 | (with_reducible refine Kd.C_alloc ?_ _) | (with_reducible refine Kd.C_drewN ?_ _) | (with_reducible refine Kd.C_drew ?_))); (case side4 => exact (Kd.R_reads' HO172.out).2.1); rintro e w44 ⟨v174, rfl, ho0, hb⟩; refine ⟨_, rfl, ?_⟩; have n0_ := Aside0.mk (Kd.R_elder' (by (with_reducible repeat (first | apply Kd.R_alloc | apply Kd.R_drewN | apply Kd.R_drew)); exact HO172.out) (Kd.R_base ho0) hb); have n1_ := Aside0.mk (Kd.R_lower (Kd.R_new' ho0 (Kd.R_lt (by (with_reducible repeat (first | apply Kd.R_alloc | apply Kd.R_drewN | apply Kd.R_drew)); exact HO172.out))) (below_size (by repeat (first | (with_reducible first | exact HB.out | apply below_alloc | apply pw_below_drewN | apply below_drew1) | exact HB.out)))); have n2_ := Aside0.mk (below_step (by repeat (first | (with_reducible first | exact HB.out | apply below_alloc | apply pw_below_drewN | apply below_drew1) | exact HB.out)) hb); clear HO172; clear HB; have HO172 := n0_; have HO175 := n1_; have HB := n2_; clear n0_ n1_ n2_; (try clear hb); (try clear hb2); (try clear hk); (try clear hi); (try clear ho0)) | ((with_reducible refine gate_callee (f := 32) rfl ?_); refine goesL_ (some 33) rfl rfl Try.func32 (by kernel_rfl) rfl #[.slice A0 l0.length c0, .int .i64 a1, .slice A2 l2.length c2] rfl (by (try simp only [List.map_toArray, List.map_cons, List.map_nil]); first | done | rfl | (simp only [List.length_drop, List.length_take]; rfl)) ?_; (with_reducible refine (careenref14_Pages.calls kj4 _ _ l0 a1 _ _ l2 t176 _ ?side1 ?side2 ?side3 ?side4 A22.out).mono ?_); (case side1 => repeat (first | exact (Kd.C_below HR0.out HB.out) | (with_reducible refine Kd.C_alloc ?_ _) | (with_reducible refine Kd.C_drewN ?_ _) | (with_reducible refine Kd.C_drew ?_))); (case side2 => exact HC0.out); (case side3 => repeat (first | exact (Kd.C_below HR2.out HB.out) | (with_reducible refine Kd.C_alloc ?_ _) | (with_reducible refine Kd.C_drewN ?_ _) | (with_reducible refine Kd.C_drew ?_))); (case side4 => exact HC2.out); rintro e w45 ⟨v177, rfl, ho0, hb⟩; refine ⟨_, rfl, ?_⟩; have n0_ := Aside0.mk (Kd.R_elder' (by (with_reducible repeat (first | apply Kd.R_alloc | apply Kd.R_drewN | apply Kd.R_drew)); exact HO172.out) (Kd.R_base ho0) hb); have n1_ := Aside0.mk (Kd.R_elder' (by (with_reducible repeat (first | apply Kd.R_alloc | apply Kd.R_drewN | apply Kd.R_drew)); exact HO175.out) (Kd.R_base ho0) hb); have n2_ := Aside0.mk (Kd.R_lower (Kd.R_new' (Kd.R_new' ho0 (Kd.R_lt (by (with_reducible repeat (first | apply Kd.R_alloc | apply Kd.R_drewN | apply Kd.R_drew)); exact HO172.out))) (Kd.R_lt (by (with_reducible repeat (first | apply Kd.R_alloc | apply Kd.R_drewN | apply Kd.R_drew)); exact HO175.out))) (below_size (by repeat (first | (with_reducible first | exact HB.out | apply below_alloc | apply pw_below_drewN | apply below_drew1) | exact HB.out)))); have n3_ := Aside0.mk (below_step (by repeat (first | (with_reducible first | exact HB.out | apply below_alloc | apply pw_below_drewN | apply below_drew1) | exact HB.out)) hb); clear HO172; clear HO175; clear HB; have HO172 := n0_; have HO175 := n1_; have HO178 := n2_; have HB := n3_; clear n0_ n1_ n2_ n3_; (try clear hb); (try clear hb2); (try clear hk); (try clear hi); (try clear ho0); obtain ⟨Ao46, co46, eo46⟩ := Kd.R_slice HO175.out; subst eo46; obtain ⟨Ao47, co47, eo47⟩ := Kd.R_slice HO178.out; subst eo47) | ((with_reducible refine gate_callee (f := 31) rfl ?_); refine goesL_ (some 34) rfl rfl Try.func31 (by kernel_rfl) rfl #[.slice Ao46 t173.length co46, .slice Ao47 t176.length co47] rfl (by (try simp only [List.map_toArray, List.map_cons, List.map_nil]); first | done | rfl | (simp only [List.length_drop, List.length_take]; rfl)) ?_; (with_reducible refine (careenref14_Same.calls kj4 _ _ t173 _ _ t176 true _ ?side1 ?side2 ?side3 ?side4 A23.out).mono ?_); (case side1 => repeat (first | exact (Kd.R_reads' HO175.out).2.2 | (with_reducible refine Kd.C_alloc ?_ _) | (with_reducible refine Kd.C_drewN ?_ _) | (with_reducible refine Kd.C_drew ?_))); (case side2 => exact (Kd.R_reads' HO175.out).2.1); (case side3 => repeat (first | exact (Kd.R_reads' HO178.out).2.2 | (with_reducible refine Kd.C_alloc ?_ _) | (with_reducible refine Kd.C_drewN ?_ _) | (with_reducible refine Kd.C_drew ?_))); (case side4 => exact (Kd.R_reads' HO178.out).2.1); rintro e w' ⟨rfl, ⟨nd, rfl⟩⟩; refine ⟨_, rfl, ?_⟩) | (go_at_call 33; (with_reducible refine (redo_One.calls kj4 _ _ l0 a3 t180 t181 _ ?side1 ?side2 A25.out).mono ?_); (case side1 => repeat (first | exact (Kd.C_below HR0.out (by repeat (first | (with_reducible first | exact HB.out | apply below_alloc | apply pw_below_drewN | apply below_drew1) | exact HB.out))) | (with_reducible refine Kd.C_alloc ?_ _) | (with_reducible refine Kd.C_drewN ?_ _) | (with_reducible refine Kd.C_drew ?_))); (case side2 => exact HC0.out); rintro e w48 ⟨rfl, hb⟩; have n0_ := Aside0.mk (Kd.R_below (by (with_reducible repeat (first | apply Kd.R_alloc | apply Kd.R_drewN | apply Kd.R_drew)); exact HO172.out) hb); have n1_ := Aside0.mk (Kd.R_below (by (with_reducible repeat (first | apply Kd.R_alloc | apply Kd.R_drewN | apply Kd.R_drew)); exact HO175.out) hb); have n2_ := Aside0.mk (Kd.R_below (by (with_reducible repeat (first | apply Kd.R_alloc | apply Kd.R_drewN | apply Kd.R_drew)); exact HO178.out) hb); have n3_ := Aside0.mk (below_step (by repeat (first | (with_reducible first | exact HB.out | apply below_alloc | apply pw_below_drewN | apply below_drew1) | exact HB.out)) hb); clear HO172; clear HO175; clear HO178; clear HB; have HO172 := n0_; have HO175 := n1_; have HO178 := n2_; have HB := n3_; clear n0_ n1_ n2_ n3_; (try clear hb); (try clear hb2); (try clear hk); (try clear hi)) | (go_at_call 34; (with_reducible refine (careenref14_One.calls kj4 _ _ l0 a3 t182 t183 _ ?side1 ?side2 A26.out).mono ?_); (case side1 => repeat (first | exact (Kd.C_below HR0.out HB.out) | (with_reducible refine Kd.C_alloc ?_ _) | (with_reducible refine Kd.C_drewN ?_ _) | (with_reducible refine Kd.C_drew ?_))); (case side2 => exact HC0.out); rintro e w49 ⟨rfl, hb⟩; have n0_ := Aside0.mk (Kd.R_below (by (with_reducible repeat (first | apply Kd.R_alloc | apply Kd.R_drewN | apply Kd.R_drew)); exact HO172.out) hb); have n1_ := Aside0.mk (Kd.R_below (by (with_reducible repeat (first | apply Kd.R_alloc | apply Kd.R_drewN | apply Kd.R_drew)); exact HO175.out) hb); have n2_ := Aside0.mk (Kd.R_below (by (with_reducible repeat (first | apply Kd.R_alloc | apply Kd.R_drewN | apply Kd.R_drew)); exact HO178.out) hb); have n3_ := Aside0.mk (below_step (by repeat (first | (with_reducible first | exact HB.out | apply below_alloc | apply pw_below_drewN | apply below_drew1) | exact HB.out)) hb); clear HO172; clear HO175; clear HO178; clear HB; have HO172 := n0_; have HO175 := n1_; have HO178 := n2_; have HB := n3_; clear n0_ n1_ n2_ n3_; (try clear hb); (try clear hb2); (try clear hk); (try clear hi)))
              go_ret
              exact ⟨by first | rfl | (simp [errW_none, errW_some] <;> rfl) | (simp [*, errW_none, errW_some] <;> rfl), by repeat (first | (with_reducible first | exact HB.out | apply below_alloc | apply pw_below_drewN | apply below_drew1) | exact HB.out)⟩
          · replace c24 := Bool.eq_false_iff.mpr c24
            subst c24
            have H1 : (some false) = some r := by rw [if_neg (show ¬ (false = true) by decide)] at H; exact H
            clear H
            have H := H1
            clear H1
            obtain rfl := Option.some.inj H
            go_wp2_with (first | ((with_reducible refine gate_dst (N := 25) rfl ?_); refine Kd.R_lit k23 _ 23 ?hg (N := 25) ?hd (xs := ([] : List (S23))) (inner := []) (ok := fun _ => True) (okp := fun _ => True) ?hr ?hp (fun _ hk => hk) trivial (Below.refl _ _) (Nat.le_refl _) (by simp) ?_; (case hd => rfl); (case hg => rfl); (case hr => first | (go_simp; done) | (go_simp; rfl)); (case hp => exact (Reps.none _ _)); intro v168 w50 ho51 hb hg_ hnew_; clear hg_ hnew_; (first | rw [← Ny167.out] at ho51 | (simp only [Int.reduceToNat] at ho51; rw [← Ny167.out] at ho51)); have n0_ := Aside0.mk (Kd.R_lower ho51 (below_size (by repeat (first | (with_reducible first | exact HB.out | apply below_alloc | apply pw_below_drewN | apply below_drew1) | exact HB.out)))); have n1_ := Aside0.mk (below_step (by repeat (first | (with_reducible first | exact HB.out | apply below_alloc | apply pw_below_drewN | apply below_drew1) | exact HB.out)) hb); clear HB; have HO169 := n0_; have HB := n1_; clear n0_ n1_; clear hb ho51) | ((with_reducible refine gate_builtin (b := .append) (xs := #[.tmp 25, .tmp 26]) rfl ?_); at_builtin; refine Kd.R_append_rows k23 (w0 := w) w.heap.size rfl (.tmp 25) (.tmp 26) 49 23 (.agg #[(.int .i64 0), (.string ⟨#[]⟩)]) 24 rfl Try.underlying49 info23 rfl (by decide) (by omega) v168 y167 l2 _ _ _ (fun _ => True) (fun _ => False) rfl rfl ?aO ?aR (fun _ _ h => h) (fun _ h => h.elim) ?aF ?aB ?aS ?aL ?_; (case aR => repeat (first | exact (Kd.C_below HR2.out HB.out) | (with_reducible refine Kd.C_alloc ?_ _) | (with_reducible refine Kd.C_drewN ?_ _) | (with_reducible refine Kd.C_drew ?_))); (case aB => exact (by repeat (first | (with_reducible first | exact HB.out | apply below_alloc | apply pw_below_drewN | apply below_drew1) | exact HB.out))); (case aF => exact (fun _ _ => trivial)); (case aO => exact (by (with_reducible repeat (first | apply Kd.R_alloc | apply Kd.R_drewN | apply Kd.R_drew)); exact HO169.out)); (case aS => exact (below_size (by repeat (first | (with_reducible first | exact HB.out | apply below_alloc | apply pw_below_drewN | apply below_drew1) | exact HB.out)))); (case aL => have := LMc20.out; omega); intro v171 w52 ho hb hg hat; rw [← Ny170.out] at ho; have n0_ := Aside0.mk (hb); have n1_ := Aside0.mk (ho); clear HB; clear HO169; have HB := n0_; have HO172 := n1_; clear n0_ n1_; clear ho hb hg hat; obtain ⟨Ao53, co53, eo53⟩ := Kd.R_slice HO172.out; subst eo53) | ((with_reducible refine gate_callee (f := 30) rfl ?_); refine goesL_ (some 28) rfl rfl Try.func30 (by kernel_rfl) rfl #[.slice A0 l0.length c0, .int .i64 a1, .slice Ao53 y170.length co53] rfl (by (try simp only [List.map_toArray, List.map_cons, List.map_nil]); first | done | rfl | (simp only [List.length_drop, List.length_take]; rfl)) ?_; (with_reducible refine (redo_Pages.calls kj4 _ _ l0 a1 _ _ y170 t173 _ ?side1 ?side2 ?side3 ?side4 A21.out).mono ?_); (case side1 => repeat (first | exact (Kd.C_below HR0.out HB.out) | (with_reducible refine Kd.C_alloc ?_ _) | (with_reducible refine Kd.C_drewN ?_ _) | (with_reducible refine Kd.C_drew ?_))); (case side2 => exact HC0.out); (case side3 => repeat (first | exact (Kd.R_reads' HO172.out).2.2 | (with_reducible refine Kd.C_alloc ?_ _) | (with_reducible refine Kd.C_drewN ?_ _) | (with_reducible refine Kd.C_drew ?_))); (case side4 => exact (Kd.R_reads' HO172.out).2.1); rintro e w54 ⟨v174, rfl, ho0, hb⟩; refine ⟨_, rfl, ?_⟩; have n0_ := Aside0.mk (Kd.R_elder' (by (with_reducible repeat (first | apply Kd.R_alloc | apply Kd.R_drewN | apply Kd.R_drew)); exact HO172.out) (Kd.R_base ho0) hb); have n1_ := Aside0.mk (Kd.R_lower (Kd.R_new' ho0 (Kd.R_lt (by (with_reducible repeat (first | apply Kd.R_alloc | apply Kd.R_drewN | apply Kd.R_drew)); exact HO172.out))) (below_size (by repeat (first | (with_reducible first | exact HB.out | apply below_alloc | apply pw_below_drewN | apply below_drew1) | exact HB.out)))); have n2_ := Aside0.mk (below_step (by repeat (first | (with_reducible first | exact HB.out | apply below_alloc | apply pw_below_drewN | apply below_drew1) | exact HB.out)) hb); clear HO172; clear HB; have HO172 := n0_; have HO175 := n1_; have HB := n2_; clear n0_ n1_ n2_; (try clear hb); (try clear hb2); (try clear hk); (try clear hi); (try clear ho0)) | ((with_reducible refine gate_callee (f := 32) rfl ?_); refine goesL_ (some 33) rfl rfl Try.func32 (by kernel_rfl) rfl #[.slice A0 l0.length c0, .int .i64 a1, .slice A2 l2.length c2] rfl (by (try simp only [List.map_toArray, List.map_cons, List.map_nil]); first | done | rfl | (simp only [List.length_drop, List.length_take]; rfl)) ?_; (with_reducible refine (careenref14_Pages.calls kj4 _ _ l0 a1 _ _ l2 t176 _ ?side1 ?side2 ?side3 ?side4 A22.out).mono ?_); (case side1 => repeat (first | exact (Kd.C_below HR0.out HB.out) | (with_reducible refine Kd.C_alloc ?_ _) | (with_reducible refine Kd.C_drewN ?_ _) | (with_reducible refine Kd.C_drew ?_))); (case side2 => exact HC0.out); (case side3 => repeat (first | exact (Kd.C_below HR2.out HB.out) | (with_reducible refine Kd.C_alloc ?_ _) | (with_reducible refine Kd.C_drewN ?_ _) | (with_reducible refine Kd.C_drew ?_))); (case side4 => exact HC2.out); rintro e w55 ⟨v177, rfl, ho0, hb⟩; refine ⟨_, rfl, ?_⟩; have n0_ := Aside0.mk (Kd.R_elder' (by (with_reducible repeat (first | apply Kd.R_alloc | apply Kd.R_drewN | apply Kd.R_drew)); exact HO172.out) (Kd.R_base ho0) hb); have n1_ := Aside0.mk (Kd.R_elder' (by (with_reducible repeat (first | apply Kd.R_alloc | apply Kd.R_drewN | apply Kd.R_drew)); exact HO175.out) (Kd.R_base ho0) hb); have n2_ := Aside0.mk (Kd.R_lower (Kd.R_new' (Kd.R_new' ho0 (Kd.R_lt (by (with_reducible repeat (first | apply Kd.R_alloc | apply Kd.R_drewN | apply Kd.R_drew)); exact HO172.out))) (Kd.R_lt (by (with_reducible repeat (first | apply Kd.R_alloc | apply Kd.R_drewN | apply Kd.R_drew)); exact HO175.out))) (below_size (by repeat (first | (with_reducible first | exact HB.out | apply below_alloc | apply pw_below_drewN | apply below_drew1) | exact HB.out)))); have n3_ := Aside0.mk (below_step (by repeat (first | (with_reducible first | exact HB.out | apply below_alloc | apply pw_below_drewN | apply below_drew1) | exact HB.out)) hb); clear HO172; clear HO175; clear HB; have HO172 := n0_; have HO175 := n1_; have HO178 := n2_; have HB := n3_; clear n0_ n1_ n2_ n3_; (try clear hb); (try clear hb2); (try clear hk); (try clear hi); (try clear ho0); obtain ⟨Ao56, co56, eo56⟩ := Kd.R_slice HO175.out; subst eo56; obtain ⟨Ao57, co57, eo57⟩ := Kd.R_slice HO178.out; subst eo57) | ((with_reducible refine gate_callee (f := 31) rfl ?_); refine goesL_ (some 34) rfl rfl Try.func31 (by kernel_rfl) rfl #[.slice Ao56 t173.length co56, .slice Ao57 t176.length co57] rfl (by (try simp only [List.map_toArray, List.map_cons, List.map_nil]); first | done | rfl | (simp only [List.length_drop, List.length_take]; rfl)) ?_; (with_reducible refine (careenref14_Same.calls kj4 _ _ t173 _ _ t176 false _ ?side1 ?side2 ?side3 ?side4 A23.out).mono ?_); (case side1 => repeat (first | exact (Kd.R_reads' HO175.out).2.2 | (with_reducible refine Kd.C_alloc ?_ _) | (with_reducible refine Kd.C_drewN ?_ _) | (with_reducible refine Kd.C_drew ?_))); (case side2 => exact (Kd.R_reads' HO175.out).2.1); (case side3 => repeat (first | exact (Kd.R_reads' HO178.out).2.2 | (with_reducible refine Kd.C_alloc ?_ _) | (with_reducible refine Kd.C_drewN ?_ _) | (with_reducible refine Kd.C_drew ?_))); (case side4 => exact (Kd.R_reads' HO178.out).2.1); rintro e w' ⟨rfl, ⟨nd, rfl⟩⟩; refine ⟨_, rfl, ?_⟩))
            go_ret
            exact ⟨by first | rfl | (simp [errW_none, errW_some] <;> rfl) | (simp [*, errW_none, errW_some] <;> rfl), by repeat (first | (with_reducible first | exact HB.out | apply below_alloc | apply pw_below_drewN | apply below_drew1) | exact HB.out)⟩
        · rw [if_neg c20] at H
          exact absurd H (by simp)

/-! ### careenref11_Rises: function 36 -/
def careenref11_Rises.l0 : Nat → List (S58) → Int → Option (Bool)
  | 0, _, _ => none
  | k + 1, x0, x3 => if x3 < (x0.length : Int) then (if 0 ≤ (wrap64 (x3 - 1)) then (if (wrap64 (x3 - 1)) < (x0.length : Int) then (if 0 ≤ x3 then (if ((rd_T58 x0 (wrap64 (x3 - 1))).f0) ≥ ((rd_T58 x0 x3).f0) then (some false) else (careenref11_Rises.l0 k x0 (wrap64 (x3 + 1)))) else (none)) else (none)) else (none)) else (some true)
def careenref11_Rises.f (k : Nat) (l0 : List (S58)) : Option (Bool) := careenref11_Rises.l0 k l0 1
theorem careenref11_Rises.mono_l : ∀ k, (∀ y0 y1, LeO (careenref11_Rises.l0 k y0 y1) (careenref11_Rises.l0 (k + 1) y0 y1))
  | 0 => fun _ _ r h => by simp [careenref11_Rises.l0] at h
  | k + 1 => by
    have ih0 := careenref11_Rises.mono_l k
    · intro y0 y1
      unfold careenref11_Rises.l0
      repeat' first
      | (with_reducible exact ih0 _ _)
      | (with_reducible exact LeO.refl _)
      | (with_reducible exact LeO.none _)
      | (with_reducible refine LeO.ite ?_ ?_)
      | (with_reducible refine LeO.bind ?_ (fun _ => ?_))
      | exact ih0 _ _
      | exact LeO.none _
      | refine LeO.ite ?_ ?_
      | refine LeO.bind ?_ (fun _ => ?_)
theorem careenref11_Rises.mono : ∀ a0 k, LeO (careenref11_Rises.f k a0) (careenref11_Rises.f (k + 1) a0) := by
  intro a0 k
  have ih0 := careenref11_Rises.mono_l k
  unfold careenref11_Rises.f
  repeat' first
      | (with_reducible exact ih0 _ _)
      | (with_reducible exact LeO.refl _)
      | (with_reducible exact LeO.none _)
      | (with_reducible refine LeO.ite ?_ ?_)
      | (with_reducible refine LeO.bind ?_ (fun _ => ?_))
      | exact ih0 _ _
      | exact LeO.none _
      | refine LeO.ite ?_ ?_
      | refine LeO.bind ?_ (fun _ => ?_)
set_option maxHeartbeats 8000000 in
set_option maxRecDepth 100000 in
theorem careenref11_Rises.calls (k : Nat) (A0 : Option Addr) (c0 : Nat) (l0 : List (S58)) (r : Bool) (w : World) (hr0 : Kd.C k58 w A0 l0.length l0) (hc0 : l0.length ≤ c0) (h : careenref11_Rises.f k l0 = some r) :
    Calls Try.prog 36 #[.slice A0 l0.length c0] w fun e w' => e = .returned (.bool r) ∧ Drawn0 w w' := by
  have HR0 := Aside0.mk hr0
  have HC0 := Aside0.mk hc0
  clear hr0 hc0
  have H : (careenref11_Rises.l0 k l0 1) = some r := h
  clear h
  have H' := Aside0.mk H
  clear H
  go_enter Try.func36, Try.ntmps36
  go_wp2
  repeat (go_quiet (fail); try go_wp2)
  go_loopg [3] k (fun kq v3 w' => ∃ (x3_1 : Int), v3 = .int .i64 x3_1 ∧ Aside0 (careenref11_Rises.l0 kq l0 x3_1 = some r) ∧ Aside0 (kq ≤ k) ∧ Drawn0 w w')
  case atStart => exact ⟨(1), (by first | rfl | (simp; done) | (simp [*]; done)), H', ⟨Nat.le_refl _⟩, by repeat (first | exact Drawn0.refl _ | apply Drawn0.step)⟩
  case round =>
    clear H'
    obtain ⟨x3_1, rfl, HA, HK1, ⟨m1, rfl⟩⟩ := hrel
    cases gk with
    | zero => exact absurd HA.out (by simp [careenref11_Rises.l0])
    | succ k1 =>
      have H := HA.out
      clear HA
      simp only [careenref11_Rises.l0] at H
      by_cases c2 : x3_1 < (l0.length : Int)
      · rw [if_pos c2] at H
        have c2b0 : decide (x3_1 < (l0.length : Int)) = true := decide_eq_true c2
        clear c2
        obtain ⟨ji3, hji3⟩ : ∃ j_ : Int, (wrap64 (x3_1 - 1)) = j_ := ⟨_, rfl⟩
        replace H : (if 0 ≤ (ji3) then (if (ji3) < (l0.length : Int) then (if 0 ≤ x3_1 then (if ((rd_T58 l0 (ji3)).f0) ≥ ((rd_T58 l0 x3_1).f0) then (some false) else (careenref11_Rises.l0 k1 l0 (wrap64 (x3_1 + 1)))) else (none)) else (none)) else (none)) = some r := by first | (rw [hji3] at H; exact H) | (simp only [hji3] at H ⊢; exact H)
        have hji3w : (IntKind.i64.wrap (x3_1 - 1)) = ji3 := (i64_w _).trans hji3
        by_cases c4 : 0 ≤ (ji3)
        · rw [if_pos c4] at H
          have c4b0 : decide (0 ≤ (ji3)) = true := decide_eq_true c4
          clear c4
          by_cases c5 : (ji3) < (l0.length : Int)
          · rw [if_pos c5] at H
            have c5b0 : decide ((ji3) < (l0.length : Int)) = true := decide_eq_true c5
            clear c5
            by_cases c6 : 0 ≤ x3_1
            · rw [if_pos c6] at H
              have c6b0 : decide (0 ≤ x3_1) = true := decide_eq_true c6
              clear c6
              by_cases c7 : ((rd_T58 l0 (ji3)).f0) ≥ ((rd_T58 l0 x3_1).f0)
              · rw [if_pos c7] at H
                have c7b0 : decide (((rd_T58 l0 x3_1).f0) ≤ ((rd_T58 l0 (ji3)).f0)) = true := decide_eq_true c7
                clear c7
                obtain rfl := Option.some.inj H
                have p186 : 0 ≤ ((ji3) : Int) := of_decide_eq_true (by first | (with_reducible assumption) | assumption)
                have q186 : (ji3) < (l0.length : Int) := of_decide_eq_true (by first | (with_reducible assumption) | assumption)
                obtain ⟨ad186, A186_10, c186_10, A186_11, c186_11, e186, hx186_0, hx186_1, hx186_2, hx186_3, hx186_4, hx186_5, hx186_6, hx186_7, hx186_8, hx186_9, hx186_10, hx186_11, hl186_10, hi186_10, hl186_11, hi186_11⟩ := at_T58 HR0.out (ji3) p186 q186
                cases e186
                have HR186_10 := Aside0.mk hi186_10
                have HC186_10 := Aside0.mk hl186_10
                clear hi186_10 hl186_10
                have HR186_11 := Aside0.mk hi186_11
                have HC186_11 := Aside0.mk hl186_11
                clear hi186_11 hl186_11
                replace p186 := eq_true p186
                replace q186 := eq_true q186
                have p187 : 0 ≤ (x3_1 : Int) := of_decide_eq_true (by first | (with_reducible assumption) | assumption)
                have q187 : x3_1 < (l0.length : Int) := of_decide_eq_true (by first | (with_reducible assumption) | assumption)
                obtain ⟨ad187, A187_10, c187_10, A187_11, c187_11, e187, hx187_0, hx187_1, hx187_2, hx187_3, hx187_4, hx187_5, hx187_6, hx187_7, hx187_8, hx187_9, hx187_10, hx187_11, hl187_10, hi187_10, hl187_11, hi187_11⟩ := at_T58 HR0.out x3_1 p187 q187
                obtain rfl : ad186 = ad187 := (by injection e187)
                have HR187_10 := Aside0.mk hi187_10
                have HC187_10 := Aside0.mk hl187_10
                clear hi187_10 hl187_10
                have HR187_11 := Aside0.mk hi187_11
                have HC187_11 := Aside0.mk hl187_11
                clear hi187_11 hl187_11
                replace p187 := eq_true p187
                replace q187 := eq_true q187
                go_wp2
                repeat (go_quiet (fail); try go_wp2)
                go_ret
                exact ⟨by first | rfl | (simp; done) | (simp only [← hji3] <;> (first | rfl | simp)) | (simp [*]; done), by repeat (first | exact Drawn0.refl _ | apply Drawn0.step)⟩
              · rw [if_neg c7] at H
                have c7b0 : decide (((rd_T58 l0 x3_1).f0) ≤ ((rd_T58 l0 (ji3)).f0)) = false := decide_eq_false c7
                clear c7
                have H' := Aside0.mk H
                clear H
                have p186 : 0 ≤ ((ji3) : Int) := of_decide_eq_true (by first | (with_reducible assumption) | assumption)
                have q186 : (ji3) < (l0.length : Int) := of_decide_eq_true (by first | (with_reducible assumption) | assumption)
                obtain ⟨ad186, A186_10, c186_10, A186_11, c186_11, e186, hx186_0, hx186_1, hx186_2, hx186_3, hx186_4, hx186_5, hx186_6, hx186_7, hx186_8, hx186_9, hx186_10, hx186_11, hl186_10, hi186_10, hl186_11, hi186_11⟩ := at_T58 HR0.out (ji3) p186 q186
                cases e186
                have HR186_10 := Aside0.mk hi186_10
                have HC186_10 := Aside0.mk hl186_10
                clear hi186_10 hl186_10
                have HR186_11 := Aside0.mk hi186_11
                have HC186_11 := Aside0.mk hl186_11
                clear hi186_11 hl186_11
                replace p186 := eq_true p186
                replace q186 := eq_true q186
                have p187 : 0 ≤ (x3_1 : Int) := of_decide_eq_true (by first | (with_reducible assumption) | assumption)
                have q187 : x3_1 < (l0.length : Int) := of_decide_eq_true (by first | (with_reducible assumption) | assumption)
                obtain ⟨ad187, A187_10, c187_10, A187_11, c187_11, e187, hx187_0, hx187_1, hx187_2, hx187_3, hx187_4, hx187_5, hx187_6, hx187_7, hx187_8, hx187_9, hx187_10, hx187_11, hl187_10, hi187_10, hl187_11, hi187_11⟩ := at_T58 HR0.out x3_1 p187 q187
                obtain rfl : ad186 = ad187 := (by injection e187)
                have HR187_10 := Aside0.mk hi187_10
                have HC187_10 := Aside0.mk hl187_10
                clear hi187_10 hl187_10
                have HR187_11 := Aside0.mk hi187_11
                have HC187_11 := Aside0.mk hl187_11
                clear hi187_11 hl187_11
                replace p187 := eq_true p187
                replace q187 := eq_true q187
                go_wp2
                repeat (go_quiet (fail); try go_wp2)
                go_roundg k1
                case measure => have := HK1.out; omega
                case rel => exact ⟨(wrap64 (x3_1 + 1)), (by first | rfl | (simp; done) | (simp [*]; done)), H', ⟨by have := HK1.out; omega⟩, by repeat (first | exact Drawn0.refl _ | apply Drawn0.step)⟩
            · rw [if_neg c6] at H
              exact absurd H (by simp)
          · rw [if_neg c5] at H
            exact absurd H (by simp)
        · rw [if_neg c4] at H
          exact absurd H (by simp)
      · rw [if_neg c2] at H
        have c2b0 : decide (x3_1 < (l0.length : Int)) = false := decide_eq_false c2
        clear c2
        obtain rfl := Option.some.inj H
        go_wp2
        repeat (go_quiet (fail); try go_wp2)
        go_ret
        exact ⟨by first | rfl | (simp; done) | (simp [*]; done), by repeat (first | exact Drawn0.refl _ | apply Drawn0.step)⟩

-- NOT PRINTED: function 9 (careenlaw14_RedoWhole)

end Go.Proofs.Ytlgcmcieipdcgaa.X14
