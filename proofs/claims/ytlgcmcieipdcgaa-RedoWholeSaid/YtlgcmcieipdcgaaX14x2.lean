-- Written by this session's xprint.py (the kit's print, with contracts proved by hand).
import Derived.Test.YtlgcmcieipdcgaaX14x0
namespace Go.Proofs.Ytlgcmcieipdcgaa.X14
open Go.RowKit Go.Proofs.YtlgcmcieipdcgaaW.PrintWords Go.Proofs.YtlgcmcieipdcgaaW.PrintLast Go.Proofs.YtlgcmcieipdcgaaW.PrintMore
attribute [local go_sem] Page.fld_page_0 Page.fld_page_1 max2_int min2_int max_two min_two max_three min_three max_four min_four   -- for this text's walks alone
set_option linter.unusedVariables false
set_option linter.unusedSimpArgs false

/-! ### page_Right: function 20 -/
def page_Right.f (a0_0 : Int) (a0_1 : ByteArray) : Option (Bool) := if a0_0 ≥ 0 then (if a0_0 ≤ 2147483647 then (some ((a0_1.size : Int) == 220)) else (some false)) else (some false)
set_option maxHeartbeats 8000000 in
set_option maxRecDepth 100000 in
theorem page_Right.calls (a0_0 : Int) (a0_1 : ByteArray) (r : Bool) (w : World) (h : page_Right.f a0_0 a0_1 = some r) :
    Calls Try.prog 20 #[.agg #[.int .i64 a0_0, .string a0_1]] w fun e w' => e = .returned (.bool r) ∧ Below w.heap.size w w' := by
  have hu23 := Try.underlying23
  have HB := Aside0.mk (Below.refl w.heap.size w)
  have H : (if a0_0 ≥ 0 then (if a0_0 ≤ 2147483647 then (some ((a0_1.size : Int) == 220)) else (some false)) else (some false)) = some r := h
  clear h
  by_cases c2 : a0_0 ≥ 0
  · rw [if_pos c2] at H
    have c2b0 : decide (0 ≤ a0_0) = true := decide_eq_true c2
    clear c2
    by_cases c3 : a0_0 ≤ 2147483647
    · rw [if_pos c3] at H
      have c3b0 : decide (a0_0 ≤ 2147483647) = true := decide_eq_true c3
      clear c3
      obtain rfl := Option.some.inj H
      go_enter Try.func20, Try.ntmps20
      go_wp2_with (first | ((with_reducible refine gate_dst (N := 1) rfl ?_); (try (refine gate_guard (by rfl) ?_; dsimp only)); refine box_event ?hg (N := 1) ?hd (cs := #[.int .i64 a0_0, .string a0_1]) (t := 23) ?hr ?_; (case hd => rfl); (case hg => rfl); (case hr => first | (go_simp; done) | (go_simp; rfl)); intro gb101 hg w4 hbox hb; have n0_ := Aside0.mk (below_step (by repeat (first | (with_reducible first | exact HB.out | apply below_alloc | apply pw_below_drewN | apply below_drew1) | exact HB.out)) hb); have n1_ := Aside0.mk (hbox); have n2_ := Aside0.mk ((by rw [hg]; exact (below_size (by repeat (first | (with_reducible first | exact HB.out | apply below_alloc | apply pw_below_drewN | apply below_drew1) | exact HB.out))) : w.heap.size ≤ gb101)); have n3_ := Aside0.mk ((by rw [hg]; exact (below_size (by repeat (first | (with_reducible first | exact HB.out | apply below_alloc | apply pw_below_drewN | apply below_drew1) | exact HB.out))) : w.heap.size ≤ gb101)); clear HB; have HB := n0_; have BK101 := n1_; have GW101 := n2_; have GE101 := n3_; clear n0_ n1_ n2_ n3_; clear hb hbox hg; have hcz5_0 : w4.cell? ⟨gb101, 0, none⟩ = some (.int .i64 a0_0) := (blk_cell BK101.out 0).trans rfl; have hcz5_1 : w4.cell? ⟨gb101, 1, none⟩ = some (.string a0_1) := (blk_cell BK101.out 1).trans rfl; have hfz5_0 := blk_frozen BK101.out 0; have hfz5_1 := blk_frozen BK101.out 1))
      go_ret
      exact ⟨by first | rfl | (simp [errW_none, errW_some] <;> rfl) | (simp [*, errW_none, errW_some] <;> rfl), by repeat (first | (with_reducible first | exact HB.out | apply below_alloc | apply pw_below_drewN | apply below_drew1 | refine below_set ?_ GE101.out) | exact HB.out)⟩
    · rw [if_neg c3] at H
      have c3b0 : decide (a0_0 ≤ 2147483647) = false := decide_eq_false c3
      clear c3
      obtain rfl := Option.some.inj H
      go_enter Try.func20, Try.ntmps20
      go_wp2_with (first | ((with_reducible refine gate_dst (N := 1) rfl ?_); (try (refine gate_guard (by rfl) ?_; dsimp only)); refine box_event ?hg (N := 1) ?hd (cs := #[.int .i64 a0_0, .string a0_1]) (t := 23) ?hr ?_; (case hd => rfl); (case hg => rfl); (case hr => first | (go_simp; done) | (go_simp; rfl)); intro gb101 hg w6 hbox hb; have n0_ := Aside0.mk (below_step (by repeat (first | (with_reducible first | exact HB.out | apply below_alloc | apply pw_below_drewN | apply below_drew1) | exact HB.out)) hb); have n1_ := Aside0.mk (hbox); have n2_ := Aside0.mk ((by rw [hg]; exact (below_size (by repeat (first | (with_reducible first | exact HB.out | apply below_alloc | apply pw_below_drewN | apply below_drew1) | exact HB.out))) : w.heap.size ≤ gb101)); have n3_ := Aside0.mk ((by rw [hg]; exact (below_size (by repeat (first | (with_reducible first | exact HB.out | apply below_alloc | apply pw_below_drewN | apply below_drew1) | exact HB.out))) : w.heap.size ≤ gb101)); clear HB; have HB := n0_; have BK101 := n1_; have GW101 := n2_; have GE101 := n3_; clear n0_ n1_ n2_ n3_; clear hb hbox hg; have hcz7_0 : w6.cell? ⟨gb101, 0, none⟩ = some (.int .i64 a0_0) := (blk_cell BK101.out 0).trans rfl; have hcz7_1 : w6.cell? ⟨gb101, 1, none⟩ = some (.string a0_1) := (blk_cell BK101.out 1).trans rfl; have hfz7_0 := blk_frozen BK101.out 0; have hfz7_1 := blk_frozen BK101.out 1))
      go_ret
      exact ⟨by first | rfl | (simp [errW_none, errW_some] <;> rfl) | (simp [*, errW_none, errW_some] <;> rfl), by repeat (first | (with_reducible first | exact HB.out | apply below_alloc | apply pw_below_drewN | apply below_drew1 | refine below_set ?_ GE101.out) | exact HB.out)⟩
  · rw [if_neg c2] at H
    have c2b0 : decide (0 ≤ a0_0) = false := decide_eq_false c2
    clear c2
    obtain rfl := Option.some.inj H
    go_enter Try.func20, Try.ntmps20
    go_wp2_with (first | ((with_reducible refine gate_dst (N := 1) rfl ?_); (try (refine gate_guard (by rfl) ?_; dsimp only)); refine box_event ?hg (N := 1) ?hd (cs := #[.int .i64 a0_0, .string a0_1]) (t := 23) ?hr ?_; (case hd => rfl); (case hg => rfl); (case hr => first | (go_simp; done) | (go_simp; rfl)); intro gb101 hg w8 hbox hb; have n0_ := Aside0.mk (below_step (by repeat (first | (with_reducible first | exact HB.out | apply below_alloc | apply pw_below_drewN | apply below_drew1) | exact HB.out)) hb); have n1_ := Aside0.mk (hbox); have n2_ := Aside0.mk ((by rw [hg]; exact (below_size (by repeat (first | (with_reducible first | exact HB.out | apply below_alloc | apply pw_below_drewN | apply below_drew1) | exact HB.out))) : w.heap.size ≤ gb101)); have n3_ := Aside0.mk ((by rw [hg]; exact (below_size (by repeat (first | (with_reducible first | exact HB.out | apply below_alloc | apply pw_below_drewN | apply below_drew1) | exact HB.out))) : w.heap.size ≤ gb101)); clear HB; have HB := n0_; have BK101 := n1_; have GW101 := n2_; have GE101 := n3_; clear n0_ n1_ n2_ n3_; clear hb hbox hg; have hcz9_0 : w8.cell? ⟨gb101, 0, none⟩ = some (.int .i64 a0_0) := (blk_cell BK101.out 0).trans rfl; have hcz9_1 : w8.cell? ⟨gb101, 1, none⟩ = some (.string a0_1) := (blk_cell BK101.out 1).trans rfl; have hfz9_0 := blk_frozen BK101.out 0; have hfz9_1 := blk_frozen BK101.out 1))
    go_ret
    exact ⟨by first | rfl | (simp [errW_none, errW_some] <;> rfl) | (simp [*, errW_none, errW_some] <;> rfl), by repeat (first | (with_reducible first | exact HB.out | apply below_alloc | apply pw_below_drewN | apply below_drew1 | refine below_set ?_ GE101.out) | exact HB.out)⟩

/-! ### page_Put: function 16 -/
def page_Put.f (a0_0 : Int) (a0_1 : ByteArray) (a1 : Int) (a2 : ByteArray) (a3 : Int) : Option (Int × ByteArray × Int) :=
  if a2.size ≤ 140737488351232 then some (Page.putF a0_0 a0_1 a1 a2 a3) else none
theorem page_Put.calls (a0_0 : Int) (a0_1 : ByteArray) (a1 : Int) (a2 : ByteArray) (a3 : Int) (r1 : Int) (r2 : ByteArray) (r3 : Int) (w : World) (h : page_Put.f a0_0 a0_1 a1 a2 a3 = some (r1, r2, r3)) :
    Calls Try.prog 16 #[.agg #[.int .i64 a0_0, .string a0_1], .int .i64 a1, .string a2, .int .i64 a3] w fun e w' => e = .returned (.tuple #[.agg #[.int .i64 r1, .string r2], .int .i64 r3]) ∧ Below w.heap.size w w' := by
  unfold page_Put.f at h
  by_cases hs : a2.size ≤ 140737488351232
  · rw [if_pos hs] at h
    have e := Option.some.inj h
    have k := Page.put_calls a0_0 a0_1 a1 a2 a3 w hs
    rw [e] at k
    exact k
  · rw [if_neg hs] at h
    cases h


/-! ### page_Apply: function 25 -/
def page_Apply.j0 : Nat → Int → Bool → Int → ByteArray → Int → Int → Int → Int → Int → Int → Int → ByteArray → ByteArray → List (S100) → List (S102) → Option (Int × ByteArray)
  | 0, _, _, _, _, _, _, _, _, _, _, _, _, _, _, _ => none
  | k + 1, x1, x22, x103000, x103001, x104000, x104001, x104002, x104003, x104004, x104005, x104006, x104007, x104008, x104009, x104010 => if x22 = true then (some (x103000, x103001)) else ((page_Put.f x103000 x103001 x104003 x104008 x1).bind fun bt105 => (if bt105.2.2 = 0 then (some (bt105.1, bt105.2.1)) else (some (x103000, x103001))))
def page_Apply.f (k : Nat) (a0_0 : Int) (a0_1 : ByteArray) (a1 : Int) (a2_0 : Int) (a2_1 : Int) (a2_2 : Int) (a2_3 : Int) (a2_4 : Int) (a2_5 : Int) (a2_6 : Int) (a2_7 : ByteArray) (a2_8 : ByteArray) (l2_9 : List (S100)) (l2_10 : List (S102)) : Option (Int × ByteArray) := if a2_0 = 1 then (page_Apply.j0 k a1 (decide (a1 ≤ a0_0)) a0_0 a0_1 a2_0 a2_1 a2_2 a2_3 a2_4 a2_5 a2_6 a2_7 a2_8 l2_9 l2_10) else (if a2_0 = 2 then (page_Apply.j0 k a1 (decide (a1 ≤ a0_0)) a0_0 a0_1 a2_0 a2_1 a2_2 a2_3 a2_4 a2_5 a2_6 a2_7 a2_8 l2_9 l2_10) else (page_Apply.j0 k a1 true a0_0 a0_1 a2_0 a2_1 a2_2 a2_3 a2_4 a2_5 a2_6 a2_7 a2_8 l2_9 l2_10))
theorem page_Apply.mono_l : ∀ k, (∀ y0 y1 y2 y3 y4 y5 y6 y7 y8 y9 y10 y11 y12 y13 y14, LeO (page_Apply.j0 k y0 y1 y2 y3 y4 y5 y6 y7 y8 y9 y10 y11 y12 y13 y14) (page_Apply.j0 (k + 1) y0 y1 y2 y3 y4 y5 y6 y7 y8 y9 y10 y11 y12 y13 y14))
  | 0 => fun _ _ _ _ _ _ _ _ _ _ _ _ _ _ _ r h => by simp [page_Apply.j0] at h
  | k + 1 => by
    have ih0 := page_Apply.mono_l k
    · intro y0 y1 y2 y3 y4 y5 y6 y7 y8 y9 y10 y11 y12 y13 y14
      unfold page_Apply.j0
      repeat' first
      | (with_reducible exact ih0 _ _ _ _ _ _ _ _ _ _ _ _ _ _ _)
      | (with_reducible exact LeO.refl _)
      | (with_reducible exact LeO.none _)
      | (with_reducible refine LeO.ite ?_ ?_)
      | (with_reducible refine LeO.bind ?_ (fun _ => ?_))
      | exact ih0 _ _ _ _ _ _ _ _ _ _ _ _ _ _ _
      | exact LeO.none _
      | refine LeO.ite ?_ ?_
      | refine LeO.bind ?_ (fun _ => ?_)
theorem page_Apply.mono : ∀ a0 a1 a2 a3 a4 a5 a6 a7 a8 a9 a10 a11 a12 a13 k, LeO (page_Apply.f k a0 a1 a2 a3 a4 a5 a6 a7 a8 a9 a10 a11 a12 a13) (page_Apply.f (k + 1) a0 a1 a2 a3 a4 a5 a6 a7 a8 a9 a10 a11 a12 a13) := by
  intro a0 a1 a2 a3 a4 a5 a6 a7 a8 a9 a10 a11 a12 a13 k
  have ih0 := page_Apply.mono_l k
  unfold page_Apply.f
  repeat' first
      | (with_reducible exact ih0 _ _ _ _ _ _ _ _ _ _ _ _ _ _ _)
      | (with_reducible exact LeO.refl _)
      | (with_reducible exact LeO.none _)
      | (with_reducible refine LeO.ite ?_ ?_)
      | (with_reducible refine LeO.bind ?_ (fun _ => ?_))
      | exact ih0 _ _ _ _ _ _ _ _ _ _ _ _ _ _ _
      | exact LeO.none _
      | refine LeO.ite ?_ ?_
      | refine LeO.bind ?_ (fun _ => ?_)
set_option maxHeartbeats 8000000 in
set_option maxRecDepth 100000 in
theorem page_Apply.calls (k : Nat) (a0_0 : Int) (a0_1 : ByteArray) (a1 : Int) (a2_0 : Int) (a2_1 : Int) (a2_2 : Int) (a2_3 : Int) (a2_4 : Int) (a2_5 : Int) (a2_6 : Int) (a2_7 : ByteArray) (a2_8 : ByteArray) (A2_9 : Option Addr) (c2_9 : Nat) (l2_9 : List (S100)) (A2_10 : Option Addr) (c2_10 : Nat) (l2_10 : List (S102)) (r1 : Int) (r2 : ByteArray) (w : World) (hr2_9 : Kd.C k100 w A2_9 l2_9.length l2_9) (hc2_9 : l2_9.length ≤ c2_9) (hr2_10 : Kd.C k102 w A2_10 l2_10.length l2_10) (hc2_10 : l2_10.length ≤ c2_10) (h : page_Apply.f k a0_0 a0_1 a1 a2_0 a2_1 a2_2 a2_3 a2_4 a2_5 a2_6 a2_7 a2_8 l2_9 l2_10 = some (r1, r2)) :
    Calls Try.prog 25 #[.agg #[.int .i64 a0_0, .string a0_1], .int .i64 a1, .agg #[.int .i64 a2_0, .int .i64 a2_1, .int .i64 a2_2, .int .i64 a2_3, .int .i64 a2_4, .int .i64 a2_5, .int .i64 a2_6, .string a2_7, .string a2_8, .slice A2_9 l2_9.length c2_9, .slice A2_10 l2_10.length c2_10]] w fun e w' => e = .returned (.agg #[.int .i64 r1, .string r2]) ∧ Below w.heap.size w w' := by
  have hu23 := Try.underlying23
  have hu40 := Try.underlying40
  have HR2_9 := Aside0.mk hr2_9
  have HC2_9 := Aside0.mk hc2_9
  clear hr2_9 hc2_9
  have HR2_10 := Aside0.mk hr2_10
  have HC2_10 := Aside0.mk hc2_10
  clear hr2_10 hc2_10
  have HB := Aside0.mk (Below.refl w.heap.size w)
  have H : (if a2_0 = 1 then (page_Apply.j0 k a1 (decide (a1 ≤ a0_0)) a0_0 a0_1 a2_0 a2_1 a2_2 a2_3 a2_4 a2_5 a2_6 a2_7 a2_8 l2_9 l2_10) else (if a2_0 = 2 then (page_Apply.j0 k a1 (decide (a1 ≤ a0_0)) a0_0 a0_1 a2_0 a2_1 a2_2 a2_3 a2_4 a2_5 a2_6 a2_7 a2_8 l2_9 l2_10) else (page_Apply.j0 k a1 true a0_0 a0_1 a2_0 a2_1 a2_2 a2_3 a2_4 a2_5 a2_6 a2_7 a2_8 l2_9 l2_10))) = some (r1, r2) := h
  clear h
  have HC4 := Aside0.mk H
  clear H
  go_enter Try.func25, Try.ntmps25
  go_upto_region 1 with (first | ((with_reducible refine gate_dst (N := 3) rfl ?_); refine box_event ?hg (N := 3) ?hd (cs := #[.int .i64 a0_0, .string a0_1]) (t := 23) ?hr ?_; (case hd => rfl); (case hg => rfl); (case hr => first | (go_simp; done) | (go_simp; rfl)); intro gb102 hg w5 hbox hb; have n0_ := Aside0.mk (below_step (by repeat (first | (with_reducible first | exact HB.out | apply below_alloc | apply pw_below_drewN | apply below_drew1) | exact HB.out)) hb); have n1_ := Aside0.mk (hbox); have n2_ := Aside0.mk ((by rw [hg]; exact (below_size (by repeat (first | (with_reducible first | exact HB.out | apply below_alloc | apply pw_below_drewN | apply below_drew1) | exact HB.out))) : w.heap.size ≤ gb102)); have n3_ := Aside0.mk ((by rw [hg]; exact (below_size (by repeat (first | (with_reducible first | exact HB.out | apply below_alloc | apply pw_below_drewN | apply below_drew1) | exact HB.out))) : w.heap.size ≤ gb102)); clear HB; have HB := n0_; have BK102 := n1_; have GW102 := n2_; have GE102 := n3_; clear n0_ n1_ n2_ n3_; clear hb hbox hg) | ((with_reducible refine gate_dst (N := 5) rfl ?_); refine box_event ?hg (N := 5) ?hd (cs := #[.int .i64 a2_0, .int .i64 a2_1, .int .i64 a2_2, .int .i64 a2_3, .int .i64 a2_4, .int .i64 a2_5, .int .i64 a2_6, .string a2_7, .string a2_8, .slice A2_9 l2_9.length c2_9, .slice A2_10 l2_10.length c2_10]) (t := 40) ?hr ?_; (case hd => rfl); (case hg => rfl); (case hr => first | (go_simp; done) | (go_simp; rfl)); intro gb103 hg w6 hbox hb; have n0_ := Aside0.mk (blk_below (g := gb102) (o := .cells #[.int .i64 a0_0, .string a0_1] 23 (0, 0)) (by (with_reducible repeat (first | refine blk_drewN ?_ _ | refine blk_drew ?_ | refine blk_alloc ?_ _)); exact BK102.out) hb); have n1_ := Aside0.mk (below_step (by repeat (first | (with_reducible first | exact HB.out | apply below_alloc | apply pw_below_drewN | apply below_drew1 | refine below_set ?_ GE102.out) | exact HB.out)) hb); have n2_ := Aside0.mk (hbox); have n3_ := Aside0.mk ((by rw [hg]; exact (below_size (by repeat (first | (with_reducible first | exact HB.out | apply below_alloc | apply pw_below_drewN | apply below_drew1 | refine below_set ?_ GE102.out) | exact HB.out))) : w.heap.size ≤ gb103)); have n4_ := Aside0.mk ((by rw [hg]; exact (below_size (by repeat (first | (with_reducible first | exact HB.out | apply below_alloc | apply pw_below_drewN | apply below_drew1 | refine below_set ?_ GE102.out) | exact HB.out))) : w.heap.size ≤ gb103)); have n5_ := Aside0.mk ((by rw [hg]; exact Nat.ne_of_lt (blk_lt (g := gb102) (o := .cells #[.int .i64 a0_0, .string a0_1] 23 (0, 0)) (by (with_reducible repeat (first | refine blk_drewN ?_ _ | refine blk_drew ?_ | refine blk_alloc ?_ _)); exact BK102.out)) : gb102 ≠ gb103)); have n6_ := Aside0.mk ((by rw [hg]; exact Nat.ne_of_gt (blk_lt (g := gb102) (o := .cells #[.int .i64 a0_0, .string a0_1] 23 (0, 0)) (by (with_reducible repeat (first | refine blk_drewN ?_ _ | refine blk_drew ?_ | refine blk_alloc ?_ _)); exact BK102.out)) : gb103 ≠ gb102)); clear BK102; clear HB; have BK102 := n0_; have HB := n1_; have BK103 := n2_; have GW103 := n3_; have GE103 := n4_; have NB102_103 := n5_; have NB103_102 := n6_; clear n0_ n1_ n2_ n3_ n4_ n5_ n6_; clear hb hbox hg) | ((with_reducible refine gate_dst (N := 6) rfl ?_); refine box_event ?hg (N := 6) ?hd (cs := #[.int .i64 0, .string (⟨#[]⟩ : ByteArray)]) (t := 23) ?hr ?_; (case hd => rfl); (case hg => rfl); (case hr => first | (go_simp; done) | (go_simp; rfl)); intro gb104 hg w7 hbox hb; have n0_ := Aside0.mk (blk_below (g := gb102) (o := .cells #[.int .i64 a0_0, .string a0_1] 23 (0, 0)) (by (with_reducible repeat (first | refine blk_drewN ?_ _ | refine blk_drew ?_ | refine blk_alloc ?_ _)); exact BK102.out) hb); have n1_ := Aside0.mk (blk_below (g := gb103) (o := .cells #[.int .i64 a2_0, .int .i64 a2_1, .int .i64 a2_2, .int .i64 a2_3, .int .i64 a2_4, .int .i64 a2_5, .int .i64 a2_6, .string a2_7, .string a2_8, .slice A2_9 l2_9.length c2_9, .slice A2_10 l2_10.length c2_10] 40 (0, 0)) (by (with_reducible repeat (first | refine blk_drewN ?_ _ | refine blk_drew ?_ | refine blk_alloc ?_ _)); exact BK103.out) hb); have n2_ := Aside0.mk (below_step (by repeat (first | (with_reducible first | exact HB.out | apply below_alloc | apply pw_below_drewN | apply below_drew1 | refine below_set ?_ GE102.out | refine below_set ?_ GE103.out) | exact HB.out)) hb); have n3_ := Aside0.mk (hbox); have n4_ := Aside0.mk ((by rw [hg]; exact (below_size (by repeat (first | (with_reducible first | exact HB.out | apply below_alloc | apply pw_below_drewN | apply below_drew1 | refine below_set ?_ GE102.out | refine below_set ?_ GE103.out) | exact HB.out))) : w.heap.size ≤ gb104)); have n5_ := Aside0.mk ((by rw [hg]; exact (below_size (by repeat (first | (with_reducible first | exact HB.out | apply below_alloc | apply pw_below_drewN | apply below_drew1 | refine below_set ?_ GE102.out | refine below_set ?_ GE103.out) | exact HB.out))) : w.heap.size ≤ gb104)); have n6_ := Aside0.mk ((by rw [hg]; exact Nat.ne_of_lt (blk_lt (g := gb102) (o := .cells #[.int .i64 a0_0, .string a0_1] 23 (0, 0)) (by (with_reducible repeat (first | refine blk_drewN ?_ _ | refine blk_drew ?_ | refine blk_alloc ?_ _)); exact BK102.out)) : gb102 ≠ gb104)); have n7_ := Aside0.mk ((by rw [hg]; exact Nat.ne_of_gt (blk_lt (g := gb102) (o := .cells #[.int .i64 a0_0, .string a0_1] 23 (0, 0)) (by (with_reducible repeat (first | refine blk_drewN ?_ _ | refine blk_drew ?_ | refine blk_alloc ?_ _)); exact BK102.out)) : gb104 ≠ gb102)); have n8_ := Aside0.mk ((by rw [hg]; exact Nat.ne_of_lt (blk_lt (g := gb103) (o := .cells #[.int .i64 a2_0, .int .i64 a2_1, .int .i64 a2_2, .int .i64 a2_3, .int .i64 a2_4, .int .i64 a2_5, .int .i64 a2_6, .string a2_7, .string a2_8, .slice A2_9 l2_9.length c2_9, .slice A2_10 l2_10.length c2_10] 40 (0, 0)) (by (with_reducible repeat (first | refine blk_drewN ?_ _ | refine blk_drew ?_ | refine blk_alloc ?_ _)); exact BK103.out)) : gb103 ≠ gb104)); have n9_ := Aside0.mk ((by rw [hg]; exact Nat.ne_of_gt (blk_lt (g := gb103) (o := .cells #[.int .i64 a2_0, .int .i64 a2_1, .int .i64 a2_2, .int .i64 a2_3, .int .i64 a2_4, .int .i64 a2_5, .int .i64 a2_6, .string a2_7, .string a2_8, .slice A2_9 l2_9.length c2_9, .slice A2_10 l2_10.length c2_10] 40 (0, 0)) (by (with_reducible repeat (first | refine blk_drewN ?_ _ | refine blk_drew ?_ | refine blk_alloc ?_ _)); exact BK103.out)) : gb104 ≠ gb103)); clear BK102; clear BK103; clear HB; have BK102 := n0_; have BK103 := n1_; have HB := n2_; have BK104 := n3_; have GW104 := n4_; have GE104 := n5_; have NB102_104 := n6_; have NB104_102 := n7_; have NB103_104 := n8_; have NB104_103 := n9_; clear n0_ n1_ n2_ n3_ n4_ n5_ n6_ n7_ n8_ n9_; clear hb hbox hg))
  (try simp only [Act.put, List.setIfInBounds_toArray, List.set_cons_zero, List.set_cons_succ])
  go_cut [22] (fun v22 wc => ∃ (kq : Nat) (x22_3 : Bool), v22 = .bool x22_3 ∧ Aside0 (page_Apply.j0 kq a1 x22_3 a0_0 a0_1 a2_0 a2_1 a2_2 a2_3 a2_4 a2_5 a2_6 a2_7 a2_8 l2_9 l2_10 = some (r1, r2)) ∧ Aside0 (kq ≤ k) ∧ Aside0 (wc.heap[gb102]? = some (.cells #[.int .i64 a0_0, .string a0_1] 23 (0, 0))) ∧ Aside0 (wc.heap[gb103]? = some (.cells #[.int .i64 a2_0, .int .i64 a2_1, .int .i64 a2_2, .int .i64 a2_3, .int .i64 a2_4, .int .i64 a2_5, .int .i64 a2_6, .string a2_7, .string a2_8, (.slice A2_9 l2_9.length c2_9), (.slice A2_10 l2_10.length c2_10)] 40 (0, 0))) ∧ Aside0 (wc.heap[gb104]? = some (.cells #[.int .i64 0, .string (⟨#[]⟩ : ByteArray)] 23 (0, 0))) ∧ Aside0 (Below w.heap.size w wc))
  case first =>
    have H := HC4.out
    clear HC4
    by_cases c8 : a2_0 = 1
    · rw [if_pos c8] at H
      have c8b0 : (a2_0 == 1) = true := beq_iff_eq.mpr c8
      have c8b1 : (a2_0 != 1) = false := bne_eq_false_iff_eq.mpr c8
      clear c8
      (first | rw [c8b0] | (simp only [i64_w, i32_w]; rw [c8b0]) | skip)
      have H' := Aside0.mk H
      clear H
      have hnb9 := NB103_102.out
      have hnc9 := NB102_103.out
      have hnb10 := NB103_104.out
      have hnc10 := NB104_103.out
      have hcz11_0 : w7.cell? ⟨gb103, 0, none⟩ = some (.int .i64 a2_0) := (blk_cell BK103.out 0).trans rfl
      have hcz11_1 : w7.cell? ⟨gb103, 1, none⟩ = some (.int .i64 a2_1) := (blk_cell BK103.out 1).trans rfl
      have hcz11_2 : w7.cell? ⟨gb103, 2, none⟩ = some (.int .i64 a2_2) := (blk_cell BK103.out 2).trans rfl
      have hcz11_3 : w7.cell? ⟨gb103, 3, none⟩ = some (.int .i64 a2_3) := (blk_cell BK103.out 3).trans rfl
      have hcz11_4 : w7.cell? ⟨gb103, 4, none⟩ = some (.int .i64 a2_4) := (blk_cell BK103.out 4).trans rfl
      have hcz11_5 : w7.cell? ⟨gb103, 5, none⟩ = some (.int .i64 a2_5) := (blk_cell BK103.out 5).trans rfl
      have hcz11_6 : w7.cell? ⟨gb103, 6, none⟩ = some (.int .i64 a2_6) := (blk_cell BK103.out 6).trans rfl
      have hcz11_7 : w7.cell? ⟨gb103, 7, none⟩ = some (.string a2_7) := (blk_cell BK103.out 7).trans rfl
      have hcz11_8 : w7.cell? ⟨gb103, 8, none⟩ = some (.string a2_8) := (blk_cell BK103.out 8).trans rfl
      have hcz11_9 : w7.cell? ⟨gb103, 9, none⟩ = some (.slice A2_9 l2_9.length c2_9) := (blk_cell BK103.out 9).trans rfl
      have hcz11_10 : w7.cell? ⟨gb103, 10, none⟩ = some (.slice A2_10 l2_10.length c2_10) := (blk_cell BK103.out 10).trans rfl
      have hfz11_0 := blk_frozen BK103.out 0
      have hfz11_1 := blk_frozen BK103.out 1
      have hfz11_2 := blk_frozen BK103.out 2
      have hfz11_3 := blk_frozen BK103.out 3
      have hfz11_4 := blk_frozen BK103.out 4
      have hfz11_5 := blk_frozen BK103.out 5
      have hfz11_6 := blk_frozen BK103.out 6
      have hfz11_7 := blk_frozen BK103.out 7
      have hfz11_8 := blk_frozen BK103.out 8
      have hfz11_9 := blk_frozen BK103.out 9
      have hfz11_10 := blk_frozen BK103.out 10
      have hnb12 := NB102_104.out
      have hnc12 := NB104_102.out
      have hcz13_0 : w7.cell? ⟨gb102, 0, none⟩ = some (.int .i64 a0_0) := (blk_cell BK102.out 0).trans rfl
      have hcz13_1 : w7.cell? ⟨gb102, 1, none⟩ = some (.string a0_1) := (blk_cell BK102.out 1).trans rfl
      have hfz13_0 := blk_frozen BK102.out 0
      have hfz13_1 := blk_frozen BK102.out 1
      go_wp2
      go_meet
      case rel => exact ⟨_, (decide (a1 ≤ a0_0)), (by first | rfl | (simp; done) | (simp [*]; done)), H', ⟨by first | omega | exact Nat.le_refl _⟩, ⟨by (with_reducible repeat (first | refine blk_drewN ?_ _ | refine blk_drew ?_ | refine blk_alloc ?_ _)); exact BK102.out⟩, ⟨by (with_reducible repeat (first | refine blk_drewN ?_ _ | refine blk_drew ?_ | refine blk_alloc ?_ _)); exact BK103.out⟩, ⟨by (with_reducible repeat (first | refine blk_drewN ?_ _ | refine blk_drew ?_ | refine blk_alloc ?_ _)); exact BK104.out⟩, ⟨by repeat (first | (with_reducible first | exact HB.out | apply below_alloc | apply pw_below_drewN | apply below_drew1 | refine below_set ?_ GE102.out | refine below_set ?_ GE103.out | refine below_set ?_ GE104.out) | exact HB.out)⟩⟩
    · rw [if_neg c8] at H
      have c8b0 : (a2_0 == 1) = false := beq_eq_false_iff_ne.mpr c8
      have c8b1 : (a2_0 != 1) = true := bne_iff_ne.mpr c8
      (first | rw [c8b0] | (simp only [i64_w, i32_w]; rw [c8b0]) | skip)
      by_cases c14 : a2_0 = 2
      · rw [if_pos c14] at H
        have c14b0 : (a2_0 == 2) = true := beq_iff_eq.mpr c14
        have c14b1 : (a2_0 != 2) = false := bne_eq_false_iff_eq.mpr c14
        clear c14
        have H' := Aside0.mk H
        clear H
        have hnb15 := NB103_102.out
        have hnc15 := NB102_103.out
        have hnb16 := NB103_104.out
        have hnc16 := NB104_103.out
        have hcz17_0 : w7.cell? ⟨gb103, 0, none⟩ = some (.int .i64 a2_0) := (blk_cell BK103.out 0).trans rfl
        have hcz17_1 : w7.cell? ⟨gb103, 1, none⟩ = some (.int .i64 a2_1) := (blk_cell BK103.out 1).trans rfl
        have hcz17_2 : w7.cell? ⟨gb103, 2, none⟩ = some (.int .i64 a2_2) := (blk_cell BK103.out 2).trans rfl
        have hcz17_3 : w7.cell? ⟨gb103, 3, none⟩ = some (.int .i64 a2_3) := (blk_cell BK103.out 3).trans rfl
        have hcz17_4 : w7.cell? ⟨gb103, 4, none⟩ = some (.int .i64 a2_4) := (blk_cell BK103.out 4).trans rfl
        have hcz17_5 : w7.cell? ⟨gb103, 5, none⟩ = some (.int .i64 a2_5) := (blk_cell BK103.out 5).trans rfl
        have hcz17_6 : w7.cell? ⟨gb103, 6, none⟩ = some (.int .i64 a2_6) := (blk_cell BK103.out 6).trans rfl
        have hcz17_7 : w7.cell? ⟨gb103, 7, none⟩ = some (.string a2_7) := (blk_cell BK103.out 7).trans rfl
        have hcz17_8 : w7.cell? ⟨gb103, 8, none⟩ = some (.string a2_8) := (blk_cell BK103.out 8).trans rfl
        have hcz17_9 : w7.cell? ⟨gb103, 9, none⟩ = some (.slice A2_9 l2_9.length c2_9) := (blk_cell BK103.out 9).trans rfl
        have hcz17_10 : w7.cell? ⟨gb103, 10, none⟩ = some (.slice A2_10 l2_10.length c2_10) := (blk_cell BK103.out 10).trans rfl
        have hfz17_0 := blk_frozen BK103.out 0
        have hfz17_1 := blk_frozen BK103.out 1
        have hfz17_2 := blk_frozen BK103.out 2
        have hfz17_3 := blk_frozen BK103.out 3
        have hfz17_4 := blk_frozen BK103.out 4
        have hfz17_5 := blk_frozen BK103.out 5
        have hfz17_6 := blk_frozen BK103.out 6
        have hfz17_7 := blk_frozen BK103.out 7
        have hfz17_8 := blk_frozen BK103.out 8
        have hfz17_9 := blk_frozen BK103.out 9
        have hfz17_10 := blk_frozen BK103.out 10
        have hnb18 := NB102_104.out
        have hnc18 := NB104_102.out
        have hcz19_0 : w7.cell? ⟨gb102, 0, none⟩ = some (.int .i64 a0_0) := (blk_cell BK102.out 0).trans rfl
        have hcz19_1 : w7.cell? ⟨gb102, 1, none⟩ = some (.string a0_1) := (blk_cell BK102.out 1).trans rfl
        have hfz19_0 := blk_frozen BK102.out 0
        have hfz19_1 := blk_frozen BK102.out 1
        go_wp2
        go_meet
        case rel => exact ⟨_, (decide (a1 ≤ a0_0)), (by first | rfl | (simp; done) | (simp [*]; done)), H', ⟨by first | omega | exact Nat.le_refl _⟩, ⟨by (with_reducible repeat (first | refine blk_drewN ?_ _ | refine blk_drew ?_ | refine blk_alloc ?_ _)); exact BK102.out⟩, ⟨by (with_reducible repeat (first | refine blk_drewN ?_ _ | refine blk_drew ?_ | refine blk_alloc ?_ _)); exact BK103.out⟩, ⟨by (with_reducible repeat (first | refine blk_drewN ?_ _ | refine blk_drew ?_ | refine blk_alloc ?_ _)); exact BK104.out⟩, ⟨by repeat (first | (with_reducible first | exact HB.out | apply below_alloc | apply pw_below_drewN | apply below_drew1 | refine below_set ?_ GE102.out | refine below_set ?_ GE103.out | refine below_set ?_ GE104.out) | exact HB.out)⟩⟩
      · rw [if_neg c14] at H
        have c14b0 : (a2_0 == 2) = false := beq_eq_false_iff_ne.mpr c14
        have c14b1 : (a2_0 != 2) = true := bne_iff_ne.mpr c14
        have H' := Aside0.mk H
        clear H
        have hnb20 := NB103_102.out
        have hnc20 := NB102_103.out
        have hnb21 := NB103_104.out
        have hnc21 := NB104_103.out
        have hcz22_0 : w7.cell? ⟨gb103, 0, none⟩ = some (.int .i64 a2_0) := (blk_cell BK103.out 0).trans rfl
        have hcz22_1 : w7.cell? ⟨gb103, 1, none⟩ = some (.int .i64 a2_1) := (blk_cell BK103.out 1).trans rfl
        have hcz22_2 : w7.cell? ⟨gb103, 2, none⟩ = some (.int .i64 a2_2) := (blk_cell BK103.out 2).trans rfl
        have hcz22_3 : w7.cell? ⟨gb103, 3, none⟩ = some (.int .i64 a2_3) := (blk_cell BK103.out 3).trans rfl
        have hcz22_4 : w7.cell? ⟨gb103, 4, none⟩ = some (.int .i64 a2_4) := (blk_cell BK103.out 4).trans rfl
        have hcz22_5 : w7.cell? ⟨gb103, 5, none⟩ = some (.int .i64 a2_5) := (blk_cell BK103.out 5).trans rfl
        have hcz22_6 : w7.cell? ⟨gb103, 6, none⟩ = some (.int .i64 a2_6) := (blk_cell BK103.out 6).trans rfl
        have hcz22_7 : w7.cell? ⟨gb103, 7, none⟩ = some (.string a2_7) := (blk_cell BK103.out 7).trans rfl
        have hcz22_8 : w7.cell? ⟨gb103, 8, none⟩ = some (.string a2_8) := (blk_cell BK103.out 8).trans rfl
        have hcz22_9 : w7.cell? ⟨gb103, 9, none⟩ = some (.slice A2_9 l2_9.length c2_9) := (blk_cell BK103.out 9).trans rfl
        have hcz22_10 : w7.cell? ⟨gb103, 10, none⟩ = some (.slice A2_10 l2_10.length c2_10) := (blk_cell BK103.out 10).trans rfl
        have hfz22_0 := blk_frozen BK103.out 0
        have hfz22_1 := blk_frozen BK103.out 1
        have hfz22_2 := blk_frozen BK103.out 2
        have hfz22_3 := blk_frozen BK103.out 3
        have hfz22_4 := blk_frozen BK103.out 4
        have hfz22_5 := blk_frozen BK103.out 5
        have hfz22_6 := blk_frozen BK103.out 6
        have hfz22_7 := blk_frozen BK103.out 7
        have hfz22_8 := blk_frozen BK103.out 8
        have hfz22_9 := blk_frozen BK103.out 9
        have hfz22_10 := blk_frozen BK103.out 10
        go_wp2
        go_meet
        case rel => exact ⟨_, (true), (by first | rfl | (simp; done) | (simp [*]; done)), H', ⟨by first | omega | exact Nat.le_refl _⟩, ⟨by (with_reducible repeat (first | refine blk_drewN ?_ _ | refine blk_drew ?_ | refine blk_alloc ?_ _)); exact BK102.out⟩, ⟨by (with_reducible repeat (first | refine blk_drewN ?_ _ | refine blk_drew ?_ | refine blk_alloc ?_ _)); exact BK103.out⟩, ⟨by (with_reducible repeat (first | refine blk_drewN ?_ _ | refine blk_drew ?_ | refine blk_alloc ?_ _)); exact BK104.out⟩, ⟨by repeat (first | (with_reducible first | exact HB.out | apply below_alloc | apply pw_below_drewN | apply below_drew1 | refine below_set ?_ GE102.out | refine below_set ?_ GE103.out | refine below_set ?_ GE104.out) | exact HB.out)⟩⟩
  case rest =>
    clear HC4
    try clear c1
    try clear c2
    try clear p2
    try clear c8
    try clear c8b0
    try clear c8b1
    try clear c9
    try clear c10
    try clear c12
    try clear c14
    try clear c14b0
    try clear c14b1
    try clear c15
    try clear c16
    try clear c18
    try clear c20
    try clear c21
    try clear hcz11_0
    try clear hcz11_1
    try clear hcz11_10
    try clear hcz11_2
    try clear hcz11_3
    try clear hcz11_4
    try clear hcz11_5
    try clear hcz11_6
    try clear hcz11_7
    try clear hcz11_8
    try clear hcz11_9
    try clear hcz13_0
    try clear hcz13_1
    try clear hcz17_0
    try clear hcz17_1
    try clear hcz17_10
    try clear hcz17_2
    try clear hcz17_3
    try clear hcz17_4
    try clear hcz17_5
    try clear hcz17_6
    try clear hcz17_7
    try clear hcz17_8
    try clear hcz17_9
    try clear hcz19_0
    try clear hcz19_1
    try clear hcz22_0
    try clear hcz22_1
    try clear hcz22_10
    try clear hcz22_2
    try clear hcz22_3
    try clear hcz22_4
    try clear hcz22_5
    try clear hcz22_6
    try clear hcz22_7
    try clear hcz22_8
    try clear hcz22_9
    try clear hfz11_0
    try clear hfz11_1
    try clear hfz11_10
    try clear hfz11_2
    try clear hfz11_3
    try clear hfz11_4
    try clear hfz11_5
    try clear hfz11_6
    try clear hfz11_7
    try clear hfz11_8
    try clear hfz11_9
    try clear hfz13_0
    try clear hfz13_1
    try clear hfz17_0
    try clear hfz17_1
    try clear hfz17_10
    try clear hfz17_2
    try clear hfz17_3
    try clear hfz17_4
    try clear hfz17_5
    try clear hfz17_6
    try clear hfz17_7
    try clear hfz17_8
    try clear hfz17_9
    try clear hfz19_0
    try clear hfz19_1
    try clear hfz22_0
    try clear hfz22_1
    try clear hfz22_10
    try clear hfz22_2
    try clear hfz22_3
    try clear hfz22_4
    try clear hfz22_5
    try clear hfz22_6
    try clear hfz22_7
    try clear hfz22_8
    try clear hfz22_9
    obtain ⟨kq, x22_3, rfl, HA, HJ3, BK102, BK103, BK104, HB⟩ := hcut
    cases kq with
    | zero => exact absurd HA.out (by simp [page_Apply.j0])
    | succ kj3 =>
      have H := HA.out
      clear HA
      simp only [page_Apply.j0] at H
      by_cases c23 : x22_3 = true
      · subst c23
        have H1 : (some (a0_0, a0_1)) = some (r1, r2) := by rw [if_pos rfl] at H; exact H
        clear H
        have H := H1
        clear H1
        simp only [Option.some.injEq, Prod.mk.injEq] at H
        obtain ⟨rfl, rfl⟩ := H
        have hnb24 := NB102_103.out
        have hnc24 := NB103_102.out
        have hnb25 := NB102_104.out
        have hnc25 := NB104_102.out
        have hcz26_0 : wc.cell? ⟨gb102, 0, none⟩ = some (.int .i64 a0_0) := (blk_cell BK102.out 0).trans rfl
        have hcz26_1 : wc.cell? ⟨gb102, 1, none⟩ = some (.string a0_1) := (blk_cell BK102.out 1).trans rfl
        have hfz26_0 := blk_frozen BK102.out 0
        have hfz26_1 := blk_frozen BK102.out 1
        have hnb27 := NB104_103.out
        have hnc27 := NB103_104.out
        have hcz28_0 : wc.cell? ⟨gb104, 0, none⟩ = some (.int .i64 0) := (blk_cell BK104.out 0).trans rfl
        have hcz28_1 : wc.cell? ⟨gb104, 1, none⟩ = some (.string (⟨#[]⟩ : ByteArray)) := (blk_cell BK104.out 1).trans rfl
        have hfz28_0 := blk_frozen BK104.out 0
        have hfz28_1 := blk_frozen BK104.out 1
        go_wp2
        refine bodyPost_ret (results_cell_row rfl _ _ gb104 23 #[.int .i64 a0_0, .string a0_1] (0, 0) _ rfl (by (with_reducible repeat (first | refine blk_drewN ?_ _ | refine blk_drew ?_ | refine blk_alloc ?_ _)); refine blk_put (cs := #[.int .i64 a0_0, .string (⟨#[]⟩ : ByteArray)]) ?_ 1 _ rfl; (with_reducible repeat (first | refine blk_drewN ?_ _ | refine blk_drew ?_ | refine blk_alloc ?_ _)); refine blk_put (cs := #[.int .i64 0, .string (⟨#[]⟩ : ByteArray)]) ?_ 0 _ rfl; (with_reducible repeat (first | refine blk_drewN ?_ _ | refine blk_drew ?_ | refine blk_alloc ?_ _)); exact BK104.out) Try.underlying23 rfl (by kernel_rfl)) rfl ?_
        exact ⟨by first | rfl | (simp [errW_none, errW_some] <;> rfl) | (simp [*, errW_none, errW_some] <;> rfl), by repeat (first | (with_reducible first | exact HB.out | apply below_alloc | apply pw_below_drewN | apply below_drew1 | refine below_set ?_ GE102.out | refine below_set ?_ GE103.out | refine below_set ?_ GE104.out) | exact HB.out)⟩
      · replace c23 := Bool.eq_false_iff.mpr c23
        subst c23
        have H1 : ((page_Put.f a0_0 a0_1 a2_3 a2_8 a1).bind fun bt105 => (if bt105.2.2 = 0 then (some (bt105.1, bt105.2.1)) else (some (a0_0, a0_1)))) = some (r1, r2) := by rw [if_neg (show ¬ (false = true) by decide)] at H; exact H
        clear H
        have H := H1
        clear H1
        replace H := Option.bind_eq_some_iff.mp H
        obtain ⟨⟨t105, t106, t107⟩, A290, H⟩ := H
        replace H : (if t107 = 0 then (some (t105, t106)) else (some (a0_0, a0_1))) = some (r1, r2) := H
        have A29 := Aside0.mk A290
        clear A290
        by_cases c30 : t107 = 0
        · rw [if_pos c30] at H
          have c30b0 : (t107 == 0) = true := beq_iff_eq.mpr c30
          have c30b1 : (t107 != 0) = false := bne_eq_false_iff_eq.mpr c30
          clear c30
          simp only [Option.some.injEq, Prod.mk.injEq] at H
          obtain ⟨rfl, rfl⟩ := H
          have hnb31 := NB102_103.out
          have hnc31 := NB103_102.out
          have hnb32 := NB102_104.out
          have hnc32 := NB104_102.out
          have hcz33_0 : wc.cell? ⟨gb102, 0, none⟩ = some (.int .i64 a0_0) := (blk_cell BK102.out 0).trans rfl
          have hcz33_1 : wc.cell? ⟨gb102, 1, none⟩ = some (.string a0_1) := (blk_cell BK102.out 1).trans rfl
          have hfz33_0 := blk_frozen BK102.out 0
          have hfz33_1 := blk_frozen BK102.out 1
          have hnb34 := NB103_104.out
          have hnc34 := NB104_103.out
          have hcz35_0 : wc.cell? ⟨gb103, 0, none⟩ = some (.int .i64 a2_0) := (blk_cell BK103.out 0).trans rfl
          have hcz35_1 : wc.cell? ⟨gb103, 1, none⟩ = some (.int .i64 a2_1) := (blk_cell BK103.out 1).trans rfl
          have hcz35_2 : wc.cell? ⟨gb103, 2, none⟩ = some (.int .i64 a2_2) := (blk_cell BK103.out 2).trans rfl
          have hcz35_3 : wc.cell? ⟨gb103, 3, none⟩ = some (.int .i64 a2_3) := (blk_cell BK103.out 3).trans rfl
          have hcz35_4 : wc.cell? ⟨gb103, 4, none⟩ = some (.int .i64 a2_4) := (blk_cell BK103.out 4).trans rfl
          have hcz35_5 : wc.cell? ⟨gb103, 5, none⟩ = some (.int .i64 a2_5) := (blk_cell BK103.out 5).trans rfl
          have hcz35_6 : wc.cell? ⟨gb103, 6, none⟩ = some (.int .i64 a2_6) := (blk_cell BK103.out 6).trans rfl
          have hcz35_7 : wc.cell? ⟨gb103, 7, none⟩ = some (.string a2_7) := (blk_cell BK103.out 7).trans rfl
          have hcz35_8 : wc.cell? ⟨gb103, 8, none⟩ = some (.string a2_8) := (blk_cell BK103.out 8).trans rfl
          have hcz35_9 : wc.cell? ⟨gb103, 9, none⟩ = some (.slice A2_9 l2_9.length c2_9) := (blk_cell BK103.out 9).trans rfl
          have hcz35_10 : wc.cell? ⟨gb103, 10, none⟩ = some (.slice A2_10 l2_10.length c2_10) := (blk_cell BK103.out 10).trans rfl
          have hfz35_0 := blk_frozen BK103.out 0
          have hfz35_1 := blk_frozen BK103.out 1
          have hfz35_2 := blk_frozen BK103.out 2
          have hfz35_3 := blk_frozen BK103.out 3
          have hfz35_4 := blk_frozen BK103.out 4
          have hfz35_5 := blk_frozen BK103.out 5
          have hfz35_6 := blk_frozen BK103.out 6
          have hfz35_7 := blk_frozen BK103.out 7
          have hfz35_8 := blk_frozen BK103.out 8
          have hfz35_9 := blk_frozen BK103.out 9
          have hfz35_10 := blk_frozen BK103.out 10
          go_wp2_with (first | ((with_reducible refine gate_callee (f := 16) rfl ?_); refine goesL_ (some 31) rfl rfl Try.func16 (by kernel_rfl) rfl #[.agg #[.int .i64 a0_0, .string a0_1], .int .i64 a2_3, .string a2_8, .int .i64 a1] rfl (by (try simp only [List.map_toArray, List.map_cons, List.map_nil]); first | done | rfl | (simp only [List.length_drop, List.length_take]; rfl)) ?_; (with_reducible refine (page_Put.calls a0_0 a0_1 a2_3 a2_8 a1 t105 t106 t107 _ A29.out).mono ?_); rintro e w36 ⟨rfl, hb⟩; refine ⟨_, rfl, ?_⟩; have n0_ := Aside0.mk (blk_below (g := gb102) (o := .cells #[.int .i64 a0_0, .string a0_1] 23 (0, 0)) (by (with_reducible repeat (first | refine blk_drewN ?_ _ | refine blk_drew ?_ | refine blk_alloc ?_ _)); exact BK102.out) hb); have n1_ := Aside0.mk (blk_below (g := gb103) (o := .cells #[.int .i64 a2_0, .int .i64 a2_1, .int .i64 a2_2, .int .i64 a2_3, .int .i64 a2_4, .int .i64 a2_5, .int .i64 a2_6, .string a2_7, .string a2_8, .slice A2_9 l2_9.length c2_9, .slice A2_10 l2_10.length c2_10] 40 (0, 0)) (by (with_reducible repeat (first | refine blk_drewN ?_ _ | refine blk_drew ?_ | refine blk_alloc ?_ _)); exact BK103.out) hb); have n2_ := Aside0.mk (blk_below (g := gb104) (o := .cells #[.int .i64 0, .string (⟨#[]⟩ : ByteArray)] 23 (0, 0)) (by (with_reducible repeat (first | refine blk_drewN ?_ _ | refine blk_drew ?_ | refine blk_alloc ?_ _)); exact BK104.out) hb); have n3_ := Aside0.mk (below_step (by repeat (first | (with_reducible first | exact HB.out | apply below_alloc | apply pw_below_drewN | apply below_drew1 | refine below_set ?_ GE102.out | refine below_set ?_ GE103.out | refine below_set ?_ GE104.out) | exact HB.out)) hb); clear BK102; clear BK103; clear BK104; clear HB; have BK102 := n0_; have BK103 := n1_; have BK104 := n2_; have HB := n3_; clear n0_ n1_ n2_ n3_; (try clear hb); (try clear hb2); (try clear hk); (try clear hi)) | ((with_reducible refine gate_dst (N := 7) rfl ?_); refine box_event ?hg (N := 7) ?hd (cs := #[.int .i64 0, .string (⟨#[]⟩ : ByteArray)]) (t := 23) ?hr ?_; (case hd => rfl); (case hg => rfl); (case hr => first | (go_simp; done) | (go_simp; rfl)); intro gb108 hg w37 hbox hb; have n0_ := Aside0.mk (blk_below (g := gb102) (o := .cells #[.int .i64 a0_0, .string a0_1] 23 (0, 0)) (by (with_reducible repeat (first | refine blk_drewN ?_ _ | refine blk_drew ?_ | refine blk_alloc ?_ _)); exact BK102.out) hb); have n1_ := Aside0.mk (blk_below (g := gb103) (o := .cells #[.int .i64 a2_0, .int .i64 a2_1, .int .i64 a2_2, .int .i64 a2_3, .int .i64 a2_4, .int .i64 a2_5, .int .i64 a2_6, .string a2_7, .string a2_8, .slice A2_9 l2_9.length c2_9, .slice A2_10 l2_10.length c2_10] 40 (0, 0)) (by (with_reducible repeat (first | refine blk_drewN ?_ _ | refine blk_drew ?_ | refine blk_alloc ?_ _)); exact BK103.out) hb); have n2_ := Aside0.mk (blk_below (g := gb104) (o := .cells #[.int .i64 0, .string (⟨#[]⟩ : ByteArray)] 23 (0, 0)) (by (with_reducible repeat (first | refine blk_drewN ?_ _ | refine blk_drew ?_ | refine blk_alloc ?_ _)); exact BK104.out) hb); have n3_ := Aside0.mk (below_step (by repeat (first | (with_reducible first | exact HB.out | apply below_alloc | apply pw_below_drewN | apply below_drew1 | refine below_set ?_ GE102.out | refine below_set ?_ GE103.out | refine below_set ?_ GE104.out) | exact HB.out)) hb); have n4_ := Aside0.mk (hbox); have n5_ := Aside0.mk ((by rw [hg]; exact (below_size (by repeat (first | (with_reducible first | exact HB.out | apply below_alloc | apply pw_below_drewN | apply below_drew1 | refine below_set ?_ GE102.out | refine below_set ?_ GE103.out | refine below_set ?_ GE104.out) | exact HB.out))) : w.heap.size ≤ gb108)); have n6_ := Aside0.mk ((by rw [hg]; exact (below_size (by repeat (first | (with_reducible first | exact HB.out | apply below_alloc | apply pw_below_drewN | apply below_drew1 | refine below_set ?_ GE102.out | refine below_set ?_ GE103.out | refine below_set ?_ GE104.out) | exact HB.out))) : w.heap.size ≤ gb108)); have n7_ := Aside0.mk ((by rw [hg]; exact Nat.ne_of_lt (blk_lt (g := gb102) (o := .cells #[.int .i64 a0_0, .string a0_1] 23 (0, 0)) (by (with_reducible repeat (first | refine blk_drewN ?_ _ | refine blk_drew ?_ | refine blk_alloc ?_ _)); exact BK102.out)) : gb102 ≠ gb108)); have n8_ := Aside0.mk ((by rw [hg]; exact Nat.ne_of_gt (blk_lt (g := gb102) (o := .cells #[.int .i64 a0_0, .string a0_1] 23 (0, 0)) (by (with_reducible repeat (first | refine blk_drewN ?_ _ | refine blk_drew ?_ | refine blk_alloc ?_ _)); exact BK102.out)) : gb108 ≠ gb102)); have n9_ := Aside0.mk ((by rw [hg]; exact Nat.ne_of_lt (blk_lt (g := gb103) (o := .cells #[.int .i64 a2_0, .int .i64 a2_1, .int .i64 a2_2, .int .i64 a2_3, .int .i64 a2_4, .int .i64 a2_5, .int .i64 a2_6, .string a2_7, .string a2_8, .slice A2_9 l2_9.length c2_9, .slice A2_10 l2_10.length c2_10] 40 (0, 0)) (by (with_reducible repeat (first | refine blk_drewN ?_ _ | refine blk_drew ?_ | refine blk_alloc ?_ _)); exact BK103.out)) : gb103 ≠ gb108)); have n10_ := Aside0.mk ((by rw [hg]; exact Nat.ne_of_gt (blk_lt (g := gb103) (o := .cells #[.int .i64 a2_0, .int .i64 a2_1, .int .i64 a2_2, .int .i64 a2_3, .int .i64 a2_4, .int .i64 a2_5, .int .i64 a2_6, .string a2_7, .string a2_8, .slice A2_9 l2_9.length c2_9, .slice A2_10 l2_10.length c2_10] 40 (0, 0)) (by (with_reducible repeat (first | refine blk_drewN ?_ _ | refine blk_drew ?_ | refine blk_alloc ?_ _)); exact BK103.out)) : gb108 ≠ gb103)); have n11_ := Aside0.mk ((by rw [hg]; exact Nat.ne_of_lt (blk_lt (g := gb104) (o := .cells #[.int .i64 0, .string (⟨#[]⟩ : ByteArray)] 23 (0, 0)) (by (with_reducible repeat (first | refine blk_drewN ?_ _ | refine blk_drew ?_ | refine blk_alloc ?_ _)); exact BK104.out)) : gb104 ≠ gb108)); have n12_ := Aside0.mk ((by rw [hg]; exact Nat.ne_of_gt (blk_lt (g := gb104) (o := .cells #[.int .i64 0, .string (⟨#[]⟩ : ByteArray)] 23 (0, 0)) (by (with_reducible repeat (first | refine blk_drewN ?_ _ | refine blk_drew ?_ | refine blk_alloc ?_ _)); exact BK104.out)) : gb108 ≠ gb104)); clear BK102; clear BK103; clear BK104; clear HB; have BK102 := n0_; have BK103 := n1_; have BK104 := n2_; have HB := n3_; have BK108 := n4_; have GW108 := n5_; have GE108 := n6_; have NB102_108 := n7_; have NB108_102 := n8_; have NB103_108 := n9_; have NB108_103 := n10_; have NB104_108 := n11_; have NB108_104 := n12_; clear n0_ n1_ n2_ n3_ n4_ n5_ n6_ n7_ n8_ n9_ n10_ n11_ n12_; clear hb hbox hg; have hnb38 := NB108_102.out; have hnc38 := NB102_108.out; have hnb39 := NB108_103.out; have hnc39 := NB103_108.out; have hnb40 := NB108_104.out; have hnc40 := NB104_108.out; have hcz41_0 : w37.cell? ⟨gb108, 0, none⟩ = some (.int .i64 0) := (blk_cell BK108.out 0).trans rfl; have hcz41_1 : w37.cell? ⟨gb108, 1, none⟩ = some (.string (⟨#[]⟩ : ByteArray)) := (blk_cell BK108.out 1).trans rfl; have hfz41_0 := blk_frozen BK108.out 0; have hfz41_1 := blk_frozen BK108.out 1; have hcz42_0 : w37.cell? ⟨gb104, 0, none⟩ = some (.int .i64 0) := (blk_cell BK104.out 0).trans rfl; have hcz42_1 : w37.cell? ⟨gb104, 1, none⟩ = some (.string (⟨#[]⟩ : ByteArray)) := (blk_cell BK104.out 1).trans rfl; have hfz42_0 := blk_frozen BK104.out 0; have hfz42_1 := blk_frozen BK104.out 1))
          refine bodyPost_ret (results_cell_row rfl _ _ gb104 23 #[.int .i64 t105, .string t106] (0, 0) _ rfl (by (with_reducible repeat (first | refine blk_drewN ?_ _ | refine blk_drew ?_ | refine blk_alloc ?_ _)); refine blk_put (cs := #[.int .i64 t105, .string (⟨#[]⟩ : ByteArray)]) ?_ 1 _ rfl; (with_reducible repeat (first | refine blk_drewN ?_ _ | refine blk_drew ?_ | refine blk_alloc ?_ _)); refine blk_put (cs := #[.int .i64 0, .string (⟨#[]⟩ : ByteArray)]) ?_ 0 _ rfl; (with_reducible repeat (first | refine blk_drewN ?_ _ | refine blk_drew ?_ | refine blk_alloc ?_ _)); refine blk_far ?_ NB104_108.out _; (with_reducible repeat (first | refine blk_drewN ?_ _ | refine blk_drew ?_ | refine blk_alloc ?_ _)); refine blk_far ?_ NB104_108.out _; (with_reducible repeat (first | refine blk_drewN ?_ _ | refine blk_drew ?_ | refine blk_alloc ?_ _)); exact BK104.out) Try.underlying23 rfl (by kernel_rfl)) rfl ?_
          exact ⟨by first | rfl | (simp [errW_none, errW_some] <;> rfl) | (simp [*, errW_none, errW_some] <;> rfl), by repeat (first | (with_reducible first | exact HB.out | apply below_alloc | apply pw_below_drewN | apply below_drew1 | refine below_set ?_ GE102.out | refine below_set ?_ GE103.out | refine below_set ?_ GE104.out | refine below_set ?_ GE108.out) | exact HB.out)⟩
        · rw [if_neg c30] at H
          have c30b0 : (t107 == 0) = false := beq_eq_false_iff_ne.mpr c30
          have c30b1 : (t107 != 0) = true := bne_iff_ne.mpr c30
          simp only [Option.some.injEq, Prod.mk.injEq] at H
          obtain ⟨rfl, rfl⟩ := H
          have hnb43 := NB102_103.out
          have hnc43 := NB103_102.out
          have hnb44 := NB102_104.out
          have hnc44 := NB104_102.out
          have hcz45_0 : wc.cell? ⟨gb102, 0, none⟩ = some (.int .i64 a0_0) := (blk_cell BK102.out 0).trans rfl
          have hcz45_1 : wc.cell? ⟨gb102, 1, none⟩ = some (.string a0_1) := (blk_cell BK102.out 1).trans rfl
          have hfz45_0 := blk_frozen BK102.out 0
          have hfz45_1 := blk_frozen BK102.out 1
          have hnb46 := NB103_104.out
          have hnc46 := NB104_103.out
          have hcz47_0 : wc.cell? ⟨gb103, 0, none⟩ = some (.int .i64 a2_0) := (blk_cell BK103.out 0).trans rfl
          have hcz47_1 : wc.cell? ⟨gb103, 1, none⟩ = some (.int .i64 a2_1) := (blk_cell BK103.out 1).trans rfl
          have hcz47_2 : wc.cell? ⟨gb103, 2, none⟩ = some (.int .i64 a2_2) := (blk_cell BK103.out 2).trans rfl
          have hcz47_3 : wc.cell? ⟨gb103, 3, none⟩ = some (.int .i64 a2_3) := (blk_cell BK103.out 3).trans rfl
          have hcz47_4 : wc.cell? ⟨gb103, 4, none⟩ = some (.int .i64 a2_4) := (blk_cell BK103.out 4).trans rfl
          have hcz47_5 : wc.cell? ⟨gb103, 5, none⟩ = some (.int .i64 a2_5) := (blk_cell BK103.out 5).trans rfl
          have hcz47_6 : wc.cell? ⟨gb103, 6, none⟩ = some (.int .i64 a2_6) := (blk_cell BK103.out 6).trans rfl
          have hcz47_7 : wc.cell? ⟨gb103, 7, none⟩ = some (.string a2_7) := (blk_cell BK103.out 7).trans rfl
          have hcz47_8 : wc.cell? ⟨gb103, 8, none⟩ = some (.string a2_8) := (blk_cell BK103.out 8).trans rfl
          have hcz47_9 : wc.cell? ⟨gb103, 9, none⟩ = some (.slice A2_9 l2_9.length c2_9) := (blk_cell BK103.out 9).trans rfl
          have hcz47_10 : wc.cell? ⟨gb103, 10, none⟩ = some (.slice A2_10 l2_10.length c2_10) := (blk_cell BK103.out 10).trans rfl
          have hfz47_0 := blk_frozen BK103.out 0
          have hfz47_1 := blk_frozen BK103.out 1
          have hfz47_2 := blk_frozen BK103.out 2
          have hfz47_3 := blk_frozen BK103.out 3
          have hfz47_4 := blk_frozen BK103.out 4
          have hfz47_5 := blk_frozen BK103.out 5
          have hfz47_6 := blk_frozen BK103.out 6
          have hfz47_7 := blk_frozen BK103.out 7
          have hfz47_8 := blk_frozen BK103.out 8
          have hfz47_9 := blk_frozen BK103.out 9
          have hfz47_10 := blk_frozen BK103.out 10
          go_wp2_with (first | ((with_reducible refine gate_callee (f := 16) rfl ?_); refine goesL_ (some 31) rfl rfl Try.func16 (by kernel_rfl) rfl #[.agg #[.int .i64 a0_0, .string a0_1], .int .i64 a2_3, .string a2_8, .int .i64 a1] rfl (by (try simp only [List.map_toArray, List.map_cons, List.map_nil]); first | done | rfl | (simp only [List.length_drop, List.length_take]; rfl)) ?_; (with_reducible refine (page_Put.calls a0_0 a0_1 a2_3 a2_8 a1 t105 t106 t107 _ A29.out).mono ?_); rintro e w48 ⟨rfl, hb⟩; refine ⟨_, rfl, ?_⟩; have n0_ := Aside0.mk (blk_below (g := gb102) (o := .cells #[.int .i64 a0_0, .string a0_1] 23 (0, 0)) (by (with_reducible repeat (first | refine blk_drewN ?_ _ | refine blk_drew ?_ | refine blk_alloc ?_ _)); exact BK102.out) hb); have n1_ := Aside0.mk (blk_below (g := gb103) (o := .cells #[.int .i64 a2_0, .int .i64 a2_1, .int .i64 a2_2, .int .i64 a2_3, .int .i64 a2_4, .int .i64 a2_5, .int .i64 a2_6, .string a2_7, .string a2_8, .slice A2_9 l2_9.length c2_9, .slice A2_10 l2_10.length c2_10] 40 (0, 0)) (by (with_reducible repeat (first | refine blk_drewN ?_ _ | refine blk_drew ?_ | refine blk_alloc ?_ _)); exact BK103.out) hb); have n2_ := Aside0.mk (blk_below (g := gb104) (o := .cells #[.int .i64 0, .string (⟨#[]⟩ : ByteArray)] 23 (0, 0)) (by (with_reducible repeat (first | refine blk_drewN ?_ _ | refine blk_drew ?_ | refine blk_alloc ?_ _)); exact BK104.out) hb); have n3_ := Aside0.mk (below_step (by repeat (first | (with_reducible first | exact HB.out | apply below_alloc | apply pw_below_drewN | apply below_drew1 | refine below_set ?_ GE102.out | refine below_set ?_ GE103.out | refine below_set ?_ GE104.out) | exact HB.out)) hb); clear BK102; clear BK103; clear BK104; clear HB; have BK102 := n0_; have BK103 := n1_; have BK104 := n2_; have HB := n3_; clear n0_ n1_ n2_ n3_; (try clear hb); (try clear hb2); (try clear hk); (try clear hi)) | ((with_reducible refine gate_dst (N := 7) rfl ?_); refine box_event ?hg (N := 7) ?hd (cs := #[.int .i64 0, .string (⟨#[]⟩ : ByteArray)]) (t := 23) ?hr ?_; (case hd => rfl); (case hg => rfl); (case hr => first | (go_simp; done) | (go_simp; rfl)); intro gb108 hg w49 hbox hb; have n0_ := Aside0.mk (blk_below (g := gb102) (o := .cells #[.int .i64 a0_0, .string a0_1] 23 (0, 0)) (by (with_reducible repeat (first | refine blk_drewN ?_ _ | refine blk_drew ?_ | refine blk_alloc ?_ _)); exact BK102.out) hb); have n1_ := Aside0.mk (blk_below (g := gb103) (o := .cells #[.int .i64 a2_0, .int .i64 a2_1, .int .i64 a2_2, .int .i64 a2_3, .int .i64 a2_4, .int .i64 a2_5, .int .i64 a2_6, .string a2_7, .string a2_8, .slice A2_9 l2_9.length c2_9, .slice A2_10 l2_10.length c2_10] 40 (0, 0)) (by (with_reducible repeat (first | refine blk_drewN ?_ _ | refine blk_drew ?_ | refine blk_alloc ?_ _)); exact BK103.out) hb); have n2_ := Aside0.mk (blk_below (g := gb104) (o := .cells #[.int .i64 0, .string (⟨#[]⟩ : ByteArray)] 23 (0, 0)) (by (with_reducible repeat (first | refine blk_drewN ?_ _ | refine blk_drew ?_ | refine blk_alloc ?_ _)); exact BK104.out) hb); have n3_ := Aside0.mk (below_step (by repeat (first | (with_reducible first | exact HB.out | apply below_alloc | apply pw_below_drewN | apply below_drew1 | refine below_set ?_ GE102.out | refine below_set ?_ GE103.out | refine below_set ?_ GE104.out) | exact HB.out)) hb); have n4_ := Aside0.mk (hbox); have n5_ := Aside0.mk ((by rw [hg]; exact (below_size (by repeat (first | (with_reducible first | exact HB.out | apply below_alloc | apply pw_below_drewN | apply below_drew1 | refine below_set ?_ GE102.out | refine below_set ?_ GE103.out | refine below_set ?_ GE104.out) | exact HB.out))) : w.heap.size ≤ gb108)); have n6_ := Aside0.mk ((by rw [hg]; exact (below_size (by repeat (first | (with_reducible first | exact HB.out | apply below_alloc | apply pw_below_drewN | apply below_drew1 | refine below_set ?_ GE102.out | refine below_set ?_ GE103.out | refine below_set ?_ GE104.out) | exact HB.out))) : w.heap.size ≤ gb108)); have n7_ := Aside0.mk ((by rw [hg]; exact Nat.ne_of_lt (blk_lt (g := gb102) (o := .cells #[.int .i64 a0_0, .string a0_1] 23 (0, 0)) (by (with_reducible repeat (first | refine blk_drewN ?_ _ | refine blk_drew ?_ | refine blk_alloc ?_ _)); exact BK102.out)) : gb102 ≠ gb108)); have n8_ := Aside0.mk ((by rw [hg]; exact Nat.ne_of_gt (blk_lt (g := gb102) (o := .cells #[.int .i64 a0_0, .string a0_1] 23 (0, 0)) (by (with_reducible repeat (first | refine blk_drewN ?_ _ | refine blk_drew ?_ | refine blk_alloc ?_ _)); exact BK102.out)) : gb108 ≠ gb102)); have n9_ := Aside0.mk ((by rw [hg]; exact Nat.ne_of_lt (blk_lt (g := gb103) (o := .cells #[.int .i64 a2_0, .int .i64 a2_1, .int .i64 a2_2, .int .i64 a2_3, .int .i64 a2_4, .int .i64 a2_5, .int .i64 a2_6, .string a2_7, .string a2_8, .slice A2_9 l2_9.length c2_9, .slice A2_10 l2_10.length c2_10] 40 (0, 0)) (by (with_reducible repeat (first | refine blk_drewN ?_ _ | refine blk_drew ?_ | refine blk_alloc ?_ _)); exact BK103.out)) : gb103 ≠ gb108)); have n10_ := Aside0.mk ((by rw [hg]; exact Nat.ne_of_gt (blk_lt (g := gb103) (o := .cells #[.int .i64 a2_0, .int .i64 a2_1, .int .i64 a2_2, .int .i64 a2_3, .int .i64 a2_4, .int .i64 a2_5, .int .i64 a2_6, .string a2_7, .string a2_8, .slice A2_9 l2_9.length c2_9, .slice A2_10 l2_10.length c2_10] 40 (0, 0)) (by (with_reducible repeat (first | refine blk_drewN ?_ _ | refine blk_drew ?_ | refine blk_alloc ?_ _)); exact BK103.out)) : gb108 ≠ gb103)); have n11_ := Aside0.mk ((by rw [hg]; exact Nat.ne_of_lt (blk_lt (g := gb104) (o := .cells #[.int .i64 0, .string (⟨#[]⟩ : ByteArray)] 23 (0, 0)) (by (with_reducible repeat (first | refine blk_drewN ?_ _ | refine blk_drew ?_ | refine blk_alloc ?_ _)); exact BK104.out)) : gb104 ≠ gb108)); have n12_ := Aside0.mk ((by rw [hg]; exact Nat.ne_of_gt (blk_lt (g := gb104) (o := .cells #[.int .i64 0, .string (⟨#[]⟩ : ByteArray)] 23 (0, 0)) (by (with_reducible repeat (first | refine blk_drewN ?_ _ | refine blk_drew ?_ | refine blk_alloc ?_ _)); exact BK104.out)) : gb108 ≠ gb104)); clear BK102; clear BK103; clear BK104; clear HB; have BK102 := n0_; have BK103 := n1_; have BK104 := n2_; have HB := n3_; have BK108 := n4_; have GW108 := n5_; have GE108 := n6_; have NB102_108 := n7_; have NB108_102 := n8_; have NB103_108 := n9_; have NB108_103 := n10_; have NB104_108 := n11_; have NB108_104 := n12_; clear n0_ n1_ n2_ n3_ n4_ n5_ n6_ n7_ n8_ n9_ n10_ n11_ n12_; clear hb hbox hg; have hnb50 := NB108_102.out; have hnc50 := NB102_108.out; have hnb51 := NB108_103.out; have hnc51 := NB103_108.out; have hnb52 := NB108_104.out; have hnc52 := NB104_108.out; have hcz53_0 : w49.cell? ⟨gb108, 0, none⟩ = some (.int .i64 0) := (blk_cell BK108.out 0).trans rfl; have hcz53_1 : w49.cell? ⟨gb108, 1, none⟩ = some (.string (⟨#[]⟩ : ByteArray)) := (blk_cell BK108.out 1).trans rfl; have hfz53_0 := blk_frozen BK108.out 0; have hfz53_1 := blk_frozen BK108.out 1; have hcz54_0 : w49.cell? ⟨gb102, 0, none⟩ = some (.int .i64 a0_0) := (blk_cell BK102.out 0).trans rfl; have hcz54_1 : w49.cell? ⟨gb102, 1, none⟩ = some (.string a0_1) := (blk_cell BK102.out 1).trans rfl; have hfz54_0 := blk_frozen BK102.out 0; have hfz54_1 := blk_frozen BK102.out 1; have hcz55_0 : w49.cell? ⟨gb104, 0, none⟩ = some (.int .i64 0) := (blk_cell BK104.out 0).trans rfl; have hcz55_1 : w49.cell? ⟨gb104, 1, none⟩ = some (.string (⟨#[]⟩ : ByteArray)) := (blk_cell BK104.out 1).trans rfl; have hfz55_0 := blk_frozen BK104.out 0; have hfz55_1 := blk_frozen BK104.out 1))
          refine bodyPost_ret (results_cell_row rfl _ _ gb104 23 #[.int .i64 a0_0, .string a0_1] (0, 0) _ rfl (by (with_reducible repeat (first | refine blk_drewN ?_ _ | refine blk_drew ?_ | refine blk_alloc ?_ _)); refine blk_put (cs := #[.int .i64 a0_0, .string (⟨#[]⟩ : ByteArray)]) ?_ 1 _ rfl; (with_reducible repeat (first | refine blk_drewN ?_ _ | refine blk_drew ?_ | refine blk_alloc ?_ _)); refine blk_put (cs := #[.int .i64 0, .string (⟨#[]⟩ : ByteArray)]) ?_ 0 _ rfl; (with_reducible repeat (first | refine blk_drewN ?_ _ | refine blk_drew ?_ | refine blk_alloc ?_ _)); refine blk_far ?_ NB104_108.out _; (with_reducible repeat (first | refine blk_drewN ?_ _ | refine blk_drew ?_ | refine blk_alloc ?_ _)); refine blk_far ?_ NB104_108.out _; (with_reducible repeat (first | refine blk_drewN ?_ _ | refine blk_drew ?_ | refine blk_alloc ?_ _)); exact BK104.out) Try.underlying23 rfl (by kernel_rfl)) rfl ?_
          exact ⟨by first | rfl | (simp [errW_none, errW_some] <;> rfl) | (simp [*, errW_none, errW_some] <;> rfl), by repeat (first | (with_reducible first | exact HB.out | apply below_alloc | apply pw_below_drewN | apply below_drew1 | refine below_set ?_ GE102.out | refine below_set ?_ GE103.out | refine below_set ?_ GE104.out | refine below_set ?_ GE108.out) | exact HB.out)⟩

/-! ### redo_Pages: function 30 -/
/-- The cells of pages, one behind the other. -/
def pcells (ps : List S23) : List Value := ps.flatMap fun x => [.int .i64 x.f0, .string x.f1]
theorem pcells_length (ps : List S23) : (pcells ps).length = ps.length * 2 := by
  induction ps with
  | nil => rfl
  | cons a r ih => simp only [pcells, List.flatMap_cons, List.length_append, List.length_cons, List.length_nil] at *; omega
theorem pcells_get (ps : List S23) : ∀ (i : Nat) (h : i < ps.length), (pcells ps)[i * 2]? = some (.int .i64 (ps[i]'h).f0) ∧ (pcells ps)[i * 2 + 1]? = some (.string (ps[i]'h).f1) := by
  induction ps with
  | nil => intro i h; simp at h
  | cons a r ih =>
    intro i h
    cases i with
    | zero => exact ⟨rfl, rfl⟩
    | succ i =>
      have := ih i (by simpa using h)
      have e : ∀ j, (pcells (a :: r))[j + 2]? = (pcells r)[j]? := fun j => by simp [pcells, List.flatMap_cons]
      rw [show (i + 1) * 2 = i * 2 + 2 by omega, show i * 2 + 2 + 1 = i * 2 + 1 + 2 by omega, e, e]
      simpa using this
theorem pcells_set (ps : List S23) : ∀ (i : Nat) (h : i < ps.length) (x : S23), ((pcells ps).set (i * 2) (.int .i64 x.f0)).set (i * 2 + 1) (.string x.f1) = pcells (ps.set i x) := by
  induction ps with
  | nil => intro i h; simp at h
  | cons a r ih =>
    intro i h x
    cases i with
    | zero => rfl
    | succ i =>
      have := ih i (by simpa using h) x
      have e : pcells (a :: r) = .int .i64 a.f0 :: .string a.f1 :: pcells r := rfl
      rw [e, show (i + 1) * 2 = i * 2 + 2 by omega, show i * 2 + 2 + 1 = i * 2 + 1 + 2 by omega]
      simp only [List.set_cons_succ, this]
      rfl
theorem pcells_drop (ps : List S23) : ∀ (i : Nat) (p : S23), ps[i]? = some p → ((pcells ps).drop (i * 2)).take 2 = [.int .i64 p.f0, .string p.f1] := by
  induction ps with
  | nil => intro i p h; simp at h
  | cons a r ih =>
    intro i p h
    cases i with
    | zero =>
      obtain rfl : a = p := by simpa using h
      rfl
    | succ i =>
      have e : pcells (a :: r) = .int .i64 a.f0 :: .string a.f1 :: pcells r := rfl
      rw [e, show (i + 1) * 2 = i * 2 + 2 by omega]
      exact ih i p (by simpa using h)
theorem pcells_row (ps : List S23) (g : Nat) (w' : World) (base : Nat) (n : Nat) (hb : base ≤ g) (h : w'.heap[g]? = some (.cells (pcells ps).toArray 23 (0, 0))) (hn : ps.length = n) (hm : n ≤ maxLen) : Kd.R k23 23 w' base (fun _ => True) (.slice (some ⟨g, 0, none⟩) n n) ps := by
  subst hn
  refine ⟨fun _ _ => trivial, pcells ps, ⟨pcells_length ps, .inr ⟨g, ps.length, (pcells ps).toArray, rfl, hb, h, Nat.le_refl _, hm, (by show (pcells ps).toArray.size = ps.length * 2; simp [pcells_length]), ?_⟩⟩, pcells_length ps, fun j p hj => ?_⟩
  · exact List.take_of_length_le (by show (pcells ps).toArray.toList.length ≤ ps.length * 2; simp [pcells_length])
  · show k23.M _ _ _ _ ((List.drop (j * 2) (pcells ps)).take 2)
    rw [pcells_drop ps j p hj]
    exact k23_mkM _ _ _ p
theorem pcells_one (ps : List S23) : ∀ v ∈ pcells ps, v.oneCell' = true := by
  intro v hv
  simp only [pcells, List.mem_flatMap] at hv
  obtain ⟨x, _, hx⟩ := hv
  rcases List.mem_cons.1 hx with rfl | hx
  · rfl
  · rw [List.mem_singleton.1 hx]; rfl
theorem pcells_src {w : World} {ad : Addr} {ps : List S23} (h : ∀ j p, ps[j]? = some p → ∃ c, c.length = 2 ∧ k23.K w p c ∧ ∀ i u, c[i]? = some u → w.cell? (ad.add (j * 2 + i)) = some u) :
    ∀ j v, (pcells ps)[j]? = some v → w.cell? (ad.add j) = some v := by
  intro j v hj
  have hl := pcells_length ps
  have hjl : j < (pcells ps).length := (List.getElem?_eq_some_iff.1 hj).1
  have hi : j / 2 < ps.length := by omega
  obtain ⟨c, hc, hk, hcell⟩ := h (j / 2) (ps[j / 2]'hi) (List.getElem?_eq_getElem hi)
  have e := k23_open hk
  subst e
  have g := pcells_get ps (j / 2) hi
  rcases Nat.mod_two_eq_zero_or_one j with m | m
  · have q : j = j / 2 * 2 := by omega
    rw [q] at hj
    rw [g.1] at hj
    have := hcell 0 v (by simpa using hj)
    rw [Nat.add_zero, ← q] at this
    exact this
  · have q : j = j / 2 * 2 + 1 := by omega
    rw [q] at hj
    rw [g.2] at hj
    have := hcell 1 v (by simpa using hj)
    rw [← q] at this
    exact this
def redo_Pages.l0 : Nat → List S58 → Int → List S23 → Int → Option (List S23)
  | 0, _, _, _, _ => none
  | k + 1, x0, x1, x7, x8 =>
    if x8 < (x0.length : Int) then
      if (rd_T58 x0 x8).f0 ≥ x1 ∧ (rd_T58 x0 x8).f1.f2 ≥ 0 ∧ (rd_T58 x0 x8).f1.f2 < (x7.length : Int) then
        (page_Apply.f k (rd_T23 x7 (rd_T58 x0 x8).f1.f2).f0 (rd_T23 x7 (rd_T58 x0 x8).f1.f2).f1 (rd_T58 x0 x8).f0 (rd_T58 x0 x8).f1.f0 (rd_T58 x0 x8).f1.f1 (rd_T58 x0 x8).f1.f2 (rd_T58 x0 x8).f1.f3 (rd_T58 x0 x8).f1.f4 (rd_T58 x0 x8).f1.f5 (rd_T58 x0 x8).f1.f6 (rd_T58 x0 x8).f1.f7 (rd_T58 x0 x8).f1.f8 (rd_T58 x0 x8).f1.f9 (rd_T58 x0 x8).f1.f10).bind fun b =>
          redo_Pages.l0 k x0 x1 (x7.set (rd_T58 x0 x8).f1.f2.toNat ⟨b.1, b.2⟩) (x8 + 1)
      else redo_Pages.l0 k x0 x1 x7 (x8 + 1)
    else some x7
def redo_Pages.f (k : Nat) (l0 : List S58) (a1 : Int) (l2 : List S23) : Option (List S23) := if l0.length < 9223372036854775807 ∧ l2.length * 24 ≤ 140737488355328 then redo_Pages.l0 k l0 a1 l2 0 else none
theorem redo_Pages.mono_l : ∀ k, (∀ y0 y1 y2 y3, LeO (redo_Pages.l0 k y0 y1 y2 y3) (redo_Pages.l0 (k + 1) y0 y1 y2 y3))
  | 0 => fun _ _ _ _ r h => by simp [redo_Pages.l0] at h
  | k + 1 => by
    have ih0 := redo_Pages.mono_l k
    intro y0 y1 y2 y3
    unfold redo_Pages.l0
    refine LeO.ite (LeO.ite (LeO.bind (page_Apply.mono _ _ _ _ _ _ _ _ _ _ _ _ _ _ k) (fun b => ih0 _ _ _ _)) (ih0 _ _ _ _)) (LeO.refl _)
theorem redo_Pages.mono : ∀ a0 a1 a2 k, LeO (redo_Pages.f k a0 a1 a2) (redo_Pages.f (k + 1) a0 a1 a2) := by
  intro a0 a1 a2 k
  unfold redo_Pages.f
  exact LeO.ite (redo_Pages.mono_l k _ _ _ _) (LeO.refl _)
set_option maxRecDepth 100000 in
theorem redo_Pages.calls (k : Nat) (A0 : Option Addr) (c0 : Nat) (l0 : List S58) (a1 : Int) (A2 : Option Addr) (c2 : Nat) (l2 : List S23) (r : List S23) (w : World) (hr0 : Kd.C k58 w A0 l0.length l0) (hc0 : l0.length ≤ c0) (hr2 : Kd.C k23 w A2 l2.length l2) (hc2 : l2.length ≤ c2) (h : redo_Pages.f k l0 a1 l2 = some r) :
    Calls Try.prog 30 #[.slice A0 l0.length c0, .int .i64 a1, .slice A2 l2.length c2] w fun e w' => ∃ v0_ : Value, e = .returned (v0_) ∧ Kd.R k23 23 w' w.heap.size (fun _ => True) v0_ r ∧ Below w.heap.size w w' := by
  have hb : l0.length < 9223372036854775807 ∧ l2.length * 24 ≤ 140737488355328 := by
    unfold redo_Pages.f at h; split at h
    · assumption
    · cases h
  have H0 : redo_Pages.l0 k l0 a1 l2 0 = some r := by unfold redo_Pages.f at h; rwa [if_pos hb] at h
  clear h
  have HL := Aside0.mk H0; clear H0
  have HR0 := Aside0.mk hr0; have HR2 := Aside0.mk hr2; clear hr0 hr2
  obtain ⟨hb1, hb2⟩ := hb
  obtain ⟨ti, hti, hz⟩ : ∃ ti, Try.prog.info? 23 = some ti ∧ ti.zero = some (.agg #[.int .i64 0, .string ⟨#[]⟩]) ∧ ti.size = 2 ∧ ti.bytes = 24 := ⟨_, rfl, rfl, rfl, rfl⟩
  have mk := run_make w 49 23 ti _ Try.underlying49 hti hz.1 .i64 .i64 (l2.length : Int) (l2.length : Int) (by omega) (by omega) (by rw [hz.2.2]; omega) (by omega)
  go_enter Try.func30, Try.ntmps30
  have cp : ∃ w3, Sem.run Try.prog (Builtin.copy_ #[49, 49] 3 #[.slice (some ⟨w.heap.size, 0, none⟩) l2.length l2.length, .slice A2 l2.length c2]) (w.alloc (Obj.cells (madeCells #[.int .i64 0, .string ⟨#[]⟩] (l2.length * 2)) 23)) = .ok (goInt l2.length) w3 ∧ w3.heap[w.heap.size]? = some (.cells (pcells l2).toArray 23 (0, 0)) ∧ Below w.heap.size w w3 := by
    have hB := (Below.refl w.heap.size w).alloc (Nat.le_refl _) (Obj.cells (madeCells #[.int .i64 0, .string ⟨#[]⟩] (l2.length * 2)) 23)
    have hn := heap_alloc_new w (Obj.cells (madeCells #[.int .i64 0, .string ⟨#[]⟩] (l2.length * 2)) 23)
    rcases Nat.eq_zero_or_pos l2.length with e | e
    · have e2 : l2 = [] := List.length_eq_zero_iff.1 e
      subst e2
      refine ⟨_, Arr.run_copy_zero (P := Try.prog) _ 49 49 3 23 w.heap.size _ A2 c2 Try.underlying49 rfl, ?_, hB⟩
      rw [hn]; simp [madeCells, pcells]
    · obtain ⟨_, hle, hrow⟩ := HR2.out
      obtain ⟨ad, rfl, hat⟩ := hrow e
      have hsz : (madeCells #[.int .i64 0, .string ⟨#[]⟩] (l2.length * 2)).size = l2.length * 2 := by simp [madeCells]
      refine ⟨_, Arr.run_copy_cells (P := Try.prog) _ 49 49 3 23 w.heap.size l2.length 2 _ ad c2 _ 23 (pcells l2) Try.underlying49 rfl hn (pcells_length l2) hsz ?_ (pcells_one l2), Arr.set_row hn _, Arr.below_setRow hB (Nat.le_refl _) _⟩
      intro j v hj
      have := pcells_src hat j v hj
      exact pw_cell_below hB this
  obtain ⟨w3, cp, B3, hB3⟩ := cp
  have BK := Aside0.mk B3; have HB := Aside0.mk hB3; clear B3 hB3
  go_upto_region 3 with (fail)
  clear cp mk hti hz
  go_upto_region 4 with (fail)
  go_loopw [19] (fun i wr => ∃ (j : Nat) (ps : List S23) (kq : Nat), i = .int .i64 j ∧ Aside0 (j ≤ l0.length) ∧ Aside0 (ps.length = l2.length) ∧ Aside0 (wr.heap[w.heap.size]? = some (.cells (pcells ps).toArray 23 (0, 0))) ∧ Aside0 (Below w.heap.size w wr) ∧ Aside0 (redo_Pages.l0 kq l0 a1 ps j = some r)) (fun i _ => l0.length - (intOf i).toNat)
  case atStart => exact ⟨0, l2, k, rfl, ⟨Nat.zero_le _⟩, ⟨rfl⟩, BK, HB, HL⟩
  case round =>
    clear BK HB HL
    obtain ⟨j, ps, kq, rfl, J, LP, BK, HB, HJ⟩ := hrel
    cases kq with
    | zero => exact absurd HJ.out (by simp [redo_Pages.l0])
    | succ kq =>
      have HQ := HJ.out
      clear HJ
      simp only [redo_Pages.l0] at HQ
      by_cases hlt : (j : Int) < (l0.length : Int)
      · rw [if_pos hlt] at HQ
        have hge : (0 : Int) ≤ (j : Int) := by omega
        obtain ⟨ad, A10, c10, A11, c11, rfl, e0, e1, e2, e3, e4, e5, e6, e7, e8, e9, e10, e11, m9, n9, m10, n10⟩ := at_T58 (Kd.C_below HR0.out HB.out) (j : Int) hge hlt
        simp only [Int.toNat_natCast] at e0 e1 e2 e3 e4 e5 e6 e7 e8 e9 e10 e11
        generalize rd_T58 l0 (j : Int) = x at *
        obtain ⟨At, r0, r1, r2, r3, r4, r5, r6, r7, r8, r9, r10⟩ := x
        simp only at e0 e1 e2 e3 e4 e5 e6 e7 e8 e9 e10 e11 m9 n9 m10 n10 HQ
        have HQ' := Aside0.mk HQ; clear HQ
        have M9 := Aside0.mk m9; have N9 := Aside0.mk n9; have M10 := Aside0.mk m10; have N10 := Aside0.mk n10; clear m9 n9 m10 n10
        go_upto_region 7 with (fail)
        have b5 := heap_alloc_new wr (Obj.cells #[.int .i64 At, .int .i64 r0, .int .i64 r1, .int .i64 r2, .int .i64 r3, .int .i64 r4, .int .i64 r5, .int .i64 r6, .string r7, .string r8, .slice A10 r9.length c10, .slice A11 r10.length c11] 58)
        have hA5 := (Below.refl wr.heap.size wr).alloc (Nat.le_refl _) (Obj.cells #[.int .i64 At, .int .i64 r0, .int .i64 r1, .int .i64 r2, .int .i64 r3, .int .i64 r4, .int .i64 r5, .int .i64 r6, .string r7, .string r8, .slice A10 r9.length c10, .slice A11 r10.length c11] 58)
        have BK5 := Aside0.mk (blk_below BK.out hA5)
        have HB5 := Aside0.mk (Arr.below_trans HB.out hA5)
        have N9' := Aside0.mk (Kd.C_below N9.out hA5); have N10' := Aside0.mk (Kd.C_below N10.out hA5)
        have hzr : w.heap.size < wr.heap.size := blk_lt BK.out
        clear BK HB N9 N10 e0 e1 e2 e3 e4 e5 e6 e7 e8 e9 e10 e11 hA5
        generalize wr.alloc (Obj.cells #[.int .i64 At, .int .i64 r0, .int .i64 r1, .int .i64 r2, .int .i64 r3, .int .i64 r4, .int .i64 r5, .int .i64 r6, .string r7, .string r8, .slice A10 r9.length c10, .slice A11 r10.length c11] 58) = w5 at *
        generalize wr.heap.size = gb at *
        have B5 := Aside0.mk b5
        have f0 := blk_cell b5 0; have f1 := blk_cell b5 1; have f2 := blk_cell b5 2; have f3 := blk_cell b5 3; have f4 := blk_cell b5 4; have f5 := blk_cell b5 5; have f6 := blk_cell b5 6; have f7 := blk_cell b5 7; have f8 := blk_cell b5 8; have f9 := blk_cell b5 9; have f10 := blk_cell b5 10; have f11 := blk_cell b5 11
        clear b5
        by_cases c1 : a1 ≤ At ∧ 0 ≤ r2 ∧ r2 < (l2.length : Int)
        · have d1 : decide (a1 ≤ At) = true := by simpa using c1.1
          have d2 : decide (0 ≤ r2) = true := by simpa using c1.2.1
          have d3 : decide (r2 < (l2.length : Int)) = true := by simpa using c1.2.2
          have HQ := HQ'.out
          rw [if_pos (by have := LP.out; omega)] at HQ
          clear HQ'
          obtain ⟨b, hb, HQ⟩ := Option.bind_eq_some_iff.1 HQ
          obtain ⟨n, rfl⟩ := Int.eq_ofNat_of_zero_le c1.2.1
          have hn : n < l2.length := by omega
          have hnp : n < ps.length := by have := LP.out; omega
          have g := pcells_get ps n hnp
          have g0 : w5.cell? ⟨w.heap.size, n * 2, none⟩ = some (.int .i64 (ps[n]'hnp).f0) := by rw [blk_cell BK5.out]; simpa using g.1
          have g1 : w5.cell? ⟨w.heap.size, n * 2 + 1, none⟩ = some (.string (ps[n]'hnp).f1) := by rw [blk_cell BK5.out]; simpa using g.2
          have hx : rd_T23 ps (n : Int) = ps[n]'hnp := by simp [rd_T23, hnp]
          rw [hx] at hb
          have HB2 := Aside0.mk hb; have HQ2 := Aside0.mk HQ; clear hb HQ g hx
          have hc1 : 0 ≤ n := by omega
          clear c1
          generalize ps[n]'hnp = pg at *
          go_upto_region 8 with (fail)
          have lg0 := World.block_lt_of_cell? _ _ g0
          have cl := page_Apply.calls kq pg.f0 pg.f1 At r0 r1 (n : Int) r3 r4 r5 r6 r7 r8 A10 c10 r9 A11 c11 r10 b.1 b.2 w5.drew (Kd.C_drew N9'.out) M9.out (Kd.C_drew N10'.out) M10.out HB2.out
          have CL := Aside0.mk cl; clear cl
          have i1 : (n : Int) < (l2.length : Int) := by omega
          have i0 : (0 : Int) ≤ (n : Int) := by omega
          refine start_ (n := 13) (S := fun w' => w'.cell? ⟨w.heap.size, n * 2, none⟩ = some (.int .i64 pg.f0) ∧ w'.cell? ⟨w.heap.size, n * 2 + 1, none⟩ = some (.string pg.f1) ∧ w'.cell? ⟨gb, 0, none⟩ = some (.int .i64 At) ∧ w'.cell? ⟨gb, 1, none⟩ = some (.int .i64 r0) ∧ w'.cell? ⟨gb, 2, none⟩ = some (.int .i64 r1) ∧ w'.cell? ⟨gb, 3, none⟩ = some (.int .i64 (n : Int)) ∧ w'.cell? ⟨gb, 4, none⟩ = some (.int .i64 r3) ∧ w'.cell? ⟨gb, 5, none⟩ = some (.int .i64 r4) ∧ w'.cell? ⟨gb, 6, none⟩ = some (.int .i64 r5) ∧ w'.cell? ⟨gb, 7, none⟩ = some (.int .i64 r6) ∧ w'.cell? ⟨gb, 8, none⟩ = some (.string r7) ∧ w'.cell? ⟨gb, 9, none⟩ = some (.string r8) ∧ w'.cell? ⟨gb, 10, none⟩ = some (.slice A10 r9.length c10) ∧ w'.cell? ⟨gb, 11, none⟩ = some (.slice A11 r10.length c11)) (ds := [12]) #[false, false, false, false, false, false, false, false, false, false, false, false, false] (by kernel_rfl) rfl rfl ⟨g0, g1, f0, f1, f2, f3, f4, f5, f6, f7, f8, f9, f10, f11⟩ (fun hHeld => ?_)
          refine pure_ (i := 0) (N := some 40) (v := ?_) (a' := ?_) #[true, false, false, false, false, false, false, false, false, false, false, false, false] rfl rfl (by kernel_rfl) (fun _ _ _ h => h) (Or.inl ⟨by rfl, ?_⟩) ?_ ?_
          rotate_left
          · intro w'
            go_simp
            with_reducible rfl
          rotate_left
          · simp only [Act.put, List.setIfInBounds_toArray, List.set_cons_zero, List.set_cons_succ, i64_w, i32_w]
            rfl
          refine pure_ (i := 1) (N := some 41) (v := ?_) (a' := ?_) #[true, true, false, false, false, false, false, false, false, false, false, false, false] rfl rfl (by kernel_rfl) (fun _ _ _ h => h) (Or.inl ⟨by rfl, ?_⟩) ?_ ?_
          rotate_left
          · intro w'
            go_simp
            with_reducible rfl
          rotate_left
          · simp only [Act.put, List.setIfInBounds_toArray, List.set_cons_zero, List.set_cons_succ, i64_w, i32_w]
            rfl
          refine pure_ (i := 2) (N := some 42) (v := ?_) (a' := ?_) #[true, true, true, false, false, false, false, false, false, false, false, false, false] rfl rfl (by kernel_rfl) (fun _ _ _ h => h) (Or.inl ⟨by rfl, ?_⟩) ?_ ?_
          rotate_left
          · intro w'
            go_simp
            with_reducible rfl
          rotate_left
          · simp only [Act.put, List.setIfInBounds_toArray, List.set_cons_zero, List.set_cons_succ, i64_w, i32_w]
            rfl
          refine pure_ (i := 3) (N := some 43) (v := ?_) (a' := ?_) #[true, true, true, true, false, false, false, false, false, false, false, false, false] rfl rfl (by kernel_rfl) (fun _ _ _ h => h) (Or.inl ⟨by rfl, ?_⟩) ?_ ?_
          rotate_left
          · intro w'
            go_simp
            with_reducible rfl
          rotate_left
          · simp only [Act.put, List.setIfInBounds_toArray, List.set_cons_zero, List.set_cons_succ, i64_w, i32_w]
            rfl
          refine pure_ (i := 4) (N := some 44) (v := ?_) (a' := ?_) #[true, true, true, true, true, false, false, false, false, false, false, false, false] rfl rfl (by kernel_rfl) (fun _ _ _ h => h) (Or.inl ⟨by rfl, ?_⟩) ?_ ?_
          rotate_left
          · intro w'
            go_simp
            with_reducible rfl
          rotate_left
          · simp only [Act.put, List.setIfInBounds_toArray, List.set_cons_zero, List.set_cons_succ, i64_w, i32_w]
            rfl
          refine pure_ (i := 6) (N := some 46) (v := ?_) (a' := ?_) #[true, true, true, true, true, false, true, false, false, false, false, false, false] rfl rfl (by kernel_rfl) (fun _ _ _ h => h) (Or.inl ⟨by rfl, ?_⟩) ?_ ?_
          rotate_left
          · intro w'
            go_simp
            with_reducible rfl
          rotate_left
          · simp only [Act.put, List.setIfInBounds_toArray, List.set_cons_zero, List.set_cons_succ, i64_w, i32_w]
            rfl
          refine pure_ (i := 8) (N := some 48) (v := ?_) (a' := ?_) #[true, true, true, true, true, false, true, false, true, false, false, false, false] rfl rfl (by kernel_rfl) (fun _ _ _ h => h) (Or.inl ⟨by rfl, ?_⟩) ?_ ?_
          rotate_left
          · intro w'
            go_simp
            with_reducible rfl
          rotate_left
          · simp only [Act.put, List.setIfInBounds_toArray, List.set_cons_zero, List.set_cons_succ, i64_w, i32_w]
            rfl
          refine take_ (i := 5) (N := some 45) (v := ?_) (a' := ?_) #[true, true, true, true, true, true, true, false, true, false, false, false, false] rfl rfl (by kernel_rfl) (fun _ _ _ h => h) (Or.inl ⟨by rfl, ?_⟩) hHeld ?_ ?_
          rotate_left
          · rintro w' ⟨s0_, s1_, s2_, s3_, s4_, s5_, s6_, s7_, s8_, s9_, s10_, s11_, s12_, s13_⟩
            go_simp
            with_reducible rfl
          rotate_left
          · simp only [Act.put, List.setIfInBounds_toArray, List.set_cons_zero, List.set_cons_succ, i64_w, i32_w]
            rfl
          refine take_ (i := 7) (N := some 47) (v := ?_) (a' := ?_) #[true, true, true, true, true, true, true, true, true, false, false, false, false] rfl rfl (by kernel_rfl) (fun _ _ _ h => h) (Or.inl ⟨by rfl, ?_⟩) hHeld ?_ ?_
          rotate_left
          · rintro w' ⟨s0_, s1_, s2_, s3_, s4_, s5_, s6_, s7_, s8_, s9_, s10_, s11_, s12_, s13_⟩
            go_simp
            with_reducible rfl
          rotate_left
          · simp only [Act.put, List.setIfInBounds_toArray, List.set_cons_zero, List.set_cons_succ, i64_w, i32_w]
            rfl
          refine take_ (i := 9) (N := some 49) (v := ?_) (a' := ?_) #[true, true, true, true, true, true, true, true, true, true, false, false, false] rfl rfl (by kernel_rfl) (fun _ _ _ h => h) (Or.inl ⟨by rfl, ?_⟩) hHeld ?_ ?_
          rotate_left
          · rintro w' ⟨s0_, s1_, s2_, s3_, s4_, s5_, s6_, s7_, s8_, s9_, s10_, s11_, s12_, s13_⟩
            go_simp
            with_reducible rfl
          rotate_left
          · simp only [Act.put, List.setIfInBounds_toArray, List.set_cons_zero, List.set_cons_succ, i64_w, i32_w]
            rfl
          refine one_ (i := 10) (N := some 50) #[true, true, true, true, true, true, true, true, true, true, true, false, false] rfl rfl (by kernel_rfl) (by decide) (fun K hK => ?_)
          refine goes_ Try.func25 (by kernel_rfl) rfl #[.agg #[.int .i64 pg.f0, .string pg.f1], .int .i64 At, .agg #[.int .i64 r0, .int .i64 r1, .int .i64 (n : Int), .int .i64 r3, .int .i64 r4, .int .i64 r5, .int .i64 r6, .string r7, .string r8, .slice A10 r9.length c10, .slice A11 r10.length c11]] (by rfl) rfl rfl (by (try simp only [List.map_toArray, List.map_cons, List.map_nil]); first | done | rfl) ?_
          refine CL.out.mono ?_
          rintro e w6 ⟨rfl, hb6⟩
          refine ⟨_, rfl, ?_⟩
          have B6 : w6.heap[w.heap.size]? = some (.cells (pcells ps).toArray 23 (0, 0)) := blk_below (w := w5.drew) BK5.out hb6
          have HB6 : Below w.heap.size w w6 := Arr.below_trans HB5.out.drew hb6
          have t0 := (hb6.cell (World.block_lt_of_cell? _ _ hHeld.1)).trans hHeld.1
          have t1 := (hb6.cell (World.block_lt_of_cell? _ _ hHeld.2.1)).trans hHeld.2.1
          have lgb : gb < w5.drew.heap.size := blk_lt B5.out
          have t2 : ∀ i, w6.cell? ⟨gb, i, none⟩ = w5.drew.cell? ⟨gb, i, none⟩ := fun i => hb6.cell (p := ⟨gb, i, none⟩) lgb
          refine hK _ _ ⟨t0, t1, (t2 0).trans hHeld.2.2.1, (t2 1).trans hHeld.2.2.2.1, (t2 2).trans hHeld.2.2.2.2.1, (t2 3).trans hHeld.2.2.2.2.2.1, (t2 4).trans hHeld.2.2.2.2.2.2.1, (t2 5).trans hHeld.2.2.2.2.2.2.2.1, (t2 6).trans hHeld.2.2.2.2.2.2.2.2.1, (t2 7).trans hHeld.2.2.2.2.2.2.2.2.2.1, (t2 8).trans hHeld.2.2.2.2.2.2.2.2.2.2.1, (t2 9).trans hHeld.2.2.2.2.2.2.2.2.2.2.2.1, (t2 10).trans hHeld.2.2.2.2.2.2.2.2.2.2.2.2.1, (t2 11).trans hHeld.2.2.2.2.2.2.2.2.2.2.2.2.2⟩ (fun _ => ?_)
          clear hK K
          have fz0 : w6.frozen? ⟨w.heap.size, n * 2, none⟩ = false := blk_frozen B6 _
          have fz1 : w6.frozen? ⟨w.heap.size, n * 2 + 1, none⟩ = false := blk_frozen B6 _
          refine norm_ (a' := ?_) ?_ ?_
          rotate_left
          · show Act.put _ (some 50) _ = _
            simp only [Act.put, List.setIfInBounds_toArray, List.set_cons_zero, List.set_cons_succ, i64_w, i32_w]
            rfl
          refine pure_ (i := 11) (N := some 51) (v := ?_) (a' := ?_) #[true, true, true, true, true, true, true, true, true, true, true, true, false] rfl rfl (by kernel_rfl) (fun _ _ _ h => h) (Or.inl ⟨by rfl, ?_⟩) ?_ ?_
          rotate_left
          · intro w'
            go_simp
            with_reducible rfl
          rotate_left
          · simp only [Act.put, List.setIfInBounds_toArray, List.set_cons_zero, List.set_cons_succ, i64_w, i32_w]
            rfl
          refine last_ (i := 12) (N := none) #[true, true, true, true, true, true, true, true, true, true, true, true, true] rfl rfl (by kernel_rfl) (by decide) (fun K hK => ?_)
          refine skip_ (w1 := ?_) (by rfl) rfl ?_ ?_
          rotate_left
          · go_simp
            rfl
          refine hK _ _ ?_
          clear hK K
          refine done_ (by kernel_rfl) ?_
          have B7 := blk_set (blk_set B6 (n * 2) (.int .i64 b.1)) (n * 2 + 1) (.string b.2)
          have e7 : (((pcells ps).toArray.setIfInBounds (n * 2) (.int .i64 b.1)).setIfInBounds (n * 2 + 1) (.string b.2)) = (pcells (ps.set n ⟨b.1, b.2⟩)).toArray := by
            rw [← pcells_set ps n hnp ⟨b.1, b.2⟩]; simp
          rw [e7] at B7
          have HB7 : Below w.heap.size w ((w6.setCell ⟨w.heap.size, n * 2, none⟩ (.int .i64 b.1)).setCell ⟨w.heap.size, n * 2 + 1, none⟩ (.string b.2)) := (HB6.setCell (Nat.le_refl _) _).setCell (Nat.le_refl _) _
          have BB := Aside0.mk B7; have HBB := Aside0.mk HB7
          clear B7 HB7 B6 HB6 e7
          go_wp2
          go_roundw
          case rel => exact ⟨j + 1, ps.set n ⟨b.1, b.2⟩, kq, by go_num, ⟨by omega⟩, ⟨by rw [List.length_set]; exact LP.out⟩, BB, HBB, ⟨by have := HQ2.out; rwa [Int.toNat_natCast] at this⟩⟩
          case measure => simp [intOf]; omega
        · have HQ := HQ'.out
          rw [if_neg (by have := LP.out; omega)] at HQ
          have HQ2 := Aside0.mk HQ; clear HQ HQ'
          by_cases d1 : a1 ≤ At
          · have D1 : decide (a1 ≤ At) = true := by simpa using d1
            by_cases d2 : 0 ≤ r2
            · have D2 : decide (0 ≤ r2) = true := by simpa using d2
              have D3 : decide (r2 < (l2.length : Int)) = false := by simp; omega
              clear d1 d2 c1
              go_wp2
              go_roundw
              case rel => exact ⟨j + 1, ps, kq, by go_num, ⟨by omega⟩, LP, BK5, HB5, HQ2⟩
              case measure => simp [intOf]; omega
            · have D2 : decide (0 ≤ r2) = false := by simpa using d2
              clear d1 d2 c1
              go_wp2
              go_roundw
              case rel => exact ⟨j + 1, ps, kq, by go_num, ⟨by omega⟩, LP, BK5, HB5, HQ2⟩
              case measure => simp [intOf]; omega
          · have D1 : decide (a1 ≤ At) = false := by simpa using d1
            clear d1 c1
            go_wp2
            go_roundw
            case rel => exact ⟨j + 1, ps, kq, by go_num, ⟨by omega⟩, LP, BK5, HB5, HQ2⟩
            case measure => simp [intOf]; omega
      · rw [if_neg hlt] at HQ
        obtain rfl := Option.some.inj HQ
        go_wp2
        go_ret
        exact ⟨_, rfl, pcells_row ps w.heap.size wr w.heap.size l2.length (Nat.le_refl _) BK.out LP.out (by unfold maxLen; omega), HB.out⟩


/-! ### page_Empty: function 22 -/
def page_Empty.f : Option (Int × ByteArray) := some (0, Arr.noughts 220)
theorem page_Empty.calls (r1 : Int) (r2 : ByteArray) (w : World) (h : page_Empty.f = some (r1, r2)) :
    Calls Try.prog 22 #[] w fun e w' => e = .returned (.agg #[.int .i64 r1, .string r2]) ∧ Below w.heap.size w w' := by
  simp only [page_Empty.f, Option.some.injEq, Prod.mk.injEq] at h
  obtain ⟨rfl, rfl⟩ := h
  exact Page.empty_calls w


end Go.Proofs.Ytlgcmcieipdcgaa.X14
