import Derived.Test.YtcfknakmamcinaaQEZ0
import Derived.Test.YtcfknakmamcinaaQEZ1
import Derived.Test.YtcfknakmamcinaaQEZ2
import Derived.Test.YtcfknakmamcinaaQEZ3
import Derived.Test.YtcfknakmamcinaaQEZ4
namespace Go.Proofs.Ytcfknakmamcinaa.Wr
open Go.Proofs.Ytcfknakmamcinaa.Rp Go.Proofs.Ytcfknakmamcinaa.X4
open Go Go.RowKit Go.ChangeMaps Go.Proofs.Ytcfknakmamcinaa.Arr Go.Proofs.Ytcfknakmamcinaa.Ow Go.Proofs.YtcfknakmamcinaaW.PrintWords Go.Proofs.YtcfknakmamcinaaW.PrintLast Go.Proofs.YtcfknakmamcinaaW.PrintMore
set_option linter.unusedVariables false
set_option linter.unusedSimpArgs false
set_option maxHeartbeats 4000000 in
theorem rrec_two (g : Nat) (s : ByteArray) (p p1 : Nat) (w : World) (h : RD w g s p) (hp : p ≤ s.size) (hs : s.size ≤ 1000000000) (h0 : smallR s p = some (2, p1)) : Calls Try.prog 31 #[.pointer (some ⟨g, 0, none⟩)] w fun x w' => AfterX g w s p x w' := by
  have HS := Aside0.mk (show s.size ≤ 1000000000000 by omega); have HL := Aside0.mk hp
  have HE := Aside0.mk (show recR s p = (numR s p1).bind fun t => (numR s t.2).bind fun v => (numR s v.2).bind fun x => (smallR s x.2).bind fun pg => (smallR s pg.2).bind fun o => (smallR s o.2).bind fun n => (takeR s n.2 n.1.toNat).bind fun f => some (⟨2, t.1, pg.1, o.1, v.1, x.1, 0, ⟨#[]⟩, f.1, [], []⟩, f.2) by unfold recR; rw [h0, Option.bind_some]; simp only; rw [if_neg (by decide), if_pos trivial])
  have HL1 := Aside0.mk (show p1 ≤ s.size from (small_some h0).2.1)
  have HP1 := Aside0.mk h0
  have HGN := Aside0.mk (show g ≠ w.heap.size from Nat.ne_of_lt (blk_lt h))
  have HGO := Aside0.mk (show ¬ One g w.heap.size from fun e => HGN.out (e : w.heap.size = g).symm)
  have HR0 := Aside0.mk (h.below ((Below.refl _ _).alloc (Nat.le_refl _) (.cells #[.int .i64 0, .int .i64 0, .int .i64 0, .int .i64 0, .int .i64 0, .int .i64 0, .int .i64 0, .string ⟨#[]⟩, .string ⟨#[]⟩, .slice none 0 0, .slice none 0 0] 25)))
  have F0 := Aside0.mk ((FS.refl (One g) w).alloc (.cells #[.int .i64 0, .int .i64 0, .int .i64 0, .int .i64 0, .int .i64 0, .int .i64 0, .int .i64 0, .string ⟨#[]⟩, .string ⟨#[]⟩, .slice none 0 0, .slice none 0 0] 25))
  have HO0 := Aside0.mk (heap_alloc_new w (.cells #[.int .i64 0, .int .i64 0, .int .i64 0, .int .i64 0, .int .i64 0, .int .i64 0, .int .i64 0, .string ⟨#[]⟩, .string ⟨#[]⟩, .slice none 0 0, .slice none 0 0] 25))
  clear h hp hs h0
  go_enter Try.func31, Try.ntmps31
  go_upto_region 1 with (fail)
  generalize w.alloc (.cells #[.int .i64 0, .int .i64 0, .int .i64 0, .int .i64 0, .int .i64 0, .int .i64 0, .int .i64 0, .string ⟨#[]⟩, .string ⟨#[]⟩, .slice none 0 0, .slice none 0 0] 25) = W1 at *
  go_upto_region 2 with (go_at_call 44; (with_reducible refine (smallr_calls g s p _ HR0.out HL.out HS.out).mono ?_); rintro e w1 hx; rw [HP1.out] at hx; obtain ⟨rfl, hk_, hf_⟩ := hx; have HR1 := Aside0.mk hk_; have F1 := Aside0.mk (F0.out.trans hf_); have HO1 := Aside0.mk (hf_.old HO0.out HGO.out); clear hk_ hf_ HR0 F0 HO0; have y0 : w1.cell? ⟨w.heap.size, 0, none⟩ = some _ := blk_cell HO1.out 0; have f0 := blk_frozen HO1.out 0)
  have HO1x := Aside0.mk (show (w1.setCell ⟨w.heap.size, 0, none⟩ (.int .i64 2)).heap[w.heap.size]? = some (.cells #[.int .i64 2, .int .i64 0, .int .i64 0, .int .i64 0, .int .i64 0, .int .i64 0, .int .i64 0, .string ⟨#[]⟩, .string ⟨#[]⟩, .slice none 0 0, .slice none 0 0] 25 (0, 0)) from set_blk HO1.out 0 (.int .i64 2))
  have HR1x := Aside0.mk (show RD (w1.setCell ⟨w.heap.size, 0, none⟩ (.int .i64 2)) g s p1 from keep_set HR1.out HGN.out 0 _)
  have F1x := Aside0.mk (FS.fresh F1.out 0 (.int .i64 2))
  have HL1x := HL1
  clear HO1 HR1 F1 y0 f0
  generalize w1.setCell ⟨w.heap.size, 0, none⟩ (.int .i64 2) = u1 at *
  have k0 : u1.cell? ⟨w.heap.size, 0, none⟩ = some (.int .i64 2) := blk_cell HO1x.out 0
  go_upto_region 7 with (fail)
  cases hp2 : numR s p1 with
  | none =>
    have HP2 := Aside0.mk hp2; clear hp2
    go_wp2_with (first | (go_at_call 45; (with_reducible refine (numr_calls g s p1 _ HR1x.out HL1x.out HS.out).mono ?_); rintro e w2 hx; rw [HP2.out] at hx; obtain ⟨rfl, hf_⟩ := hx; have F2 := Aside0.mk (F1x.out.trans hf_); clear hf_))
    refine ⟨rfl, ?_⟩
    show AfterX g w s p (gaveUp 3) _
    unfold AfterX
    rw [show recR s p = none by rw [HE.out]; simp only [HP2.out, Option.bind_some, Option.bind_none]]
    exact ⟨rfl, F2.out⟩
  | some q_ =>
  obtain ⟨t_, p2⟩ := q_
  have HL2 := Aside0.mk (show p2 ≤ s.size from (rnum_some hp2).2.1)
  have HP2 := Aside0.mk hp2; clear hp2
  cases hp3 : numR s p2 with
  | none =>
    have HP3 := Aside0.mk hp3; clear hp3
    go_wp2_with (first | (go_at_call 45; (with_reducible refine (numr_calls g s p1 _ HR1x.out HL1x.out HS.out).mono ?_); rintro e w2 hx; rw [HP2.out] at hx; obtain ⟨rfl, hk_, hf_⟩ := hx; have HR2 := Aside0.mk hk_; have F2 := Aside0.mk (F1x.out.trans hf_); have HO2 := Aside0.mk (hf_.old HO1x.out HGO.out); clear hk_ hf_ HR1x F1x HO1x) | (go_at_call 45; (with_reducible refine (numr_calls g s p2 _ HR2.out HL2.out HS.out).mono ?_); rintro e w3 hx; rw [HP3.out] at hx; obtain ⟨rfl, hf_⟩ := hx; have F3 := Aside0.mk (F2.out.trans hf_); clear hf_))
    refine ⟨rfl, ?_⟩
    show AfterX g w s p (gaveUp 3) _
    unfold AfterX
    rw [show recR s p = none by rw [HE.out]; simp only [HP2.out, HP3.out, Option.bind_some, Option.bind_none]]
    exact ⟨rfl, F3.out⟩
  | some q_ =>
  obtain ⟨v_, p3⟩ := q_
  have HL3 := Aside0.mk (show p3 ≤ s.size from (rnum_some hp3).2.1)
  have HP3 := Aside0.mk hp3; clear hp3
  go_upto_region 8 with (first | (go_at_call 45; (with_reducible refine (numr_calls g s p1 _ HR1x.out HL1x.out HS.out).mono ?_); rintro e w2 hx; rw [HP2.out] at hx; obtain ⟨rfl, hk_, hf_⟩ := hx; have HR2 := Aside0.mk hk_; have F2 := Aside0.mk (F1x.out.trans hf_); have HO2 := Aside0.mk (hf_.old HO1x.out HGO.out); clear hk_ hf_ HR1x F1x HO1x) | (go_at_call 45; (with_reducible refine (numr_calls g s p2 _ HR2.out HL2.out HS.out).mono ?_); rintro e w3 hx; rw [HP3.out] at hx; obtain ⟨rfl, hk_, hf_⟩ := hx; have HR3 := Aside0.mk hk_; have F3 := Aside0.mk (F2.out.trans hf_); have HO3 := Aside0.mk (hf_.old HO2.out HGO.out); clear hk_ hf_ HR2 F2 HO2; have y1 : w3.cell? ⟨w.heap.size, 1, none⟩ = some _ := blk_cell HO3.out 1; have f1 := blk_frozen HO3.out 1; have y4 : w3.cell? ⟨w.heap.size, 4, none⟩ = some _ := blk_cell HO3.out 4; have f4 := blk_frozen HO3.out 4))
  have HO3x := Aside0.mk (show ((w3.setCell ⟨w.heap.size, 1, none⟩ (.int .i64 t_)).setCell ⟨w.heap.size, 4, none⟩ (.int .i64 v_)).heap[w.heap.size]? = some (.cells #[.int .i64 2, .int .i64 t_, .int .i64 0, .int .i64 0, .int .i64 v_, .int .i64 0, .int .i64 0, .string ⟨#[]⟩, .string ⟨#[]⟩, .slice none 0 0, .slice none 0 0] 25 (0, 0)) from (set_blk (set_blk HO3.out 1 (.int .i64 t_)) 4 (.int .i64 v_)))
  have HR3x := Aside0.mk (show RD ((w3.setCell ⟨w.heap.size, 1, none⟩ (.int .i64 t_)).setCell ⟨w.heap.size, 4, none⟩ (.int .i64 v_)) g s p3 from (keep_set (keep_set HR3.out HGN.out 1 (.int .i64 t_)) HGN.out 4 (.int .i64 v_)))
  have F3x := Aside0.mk (FS.fresh (FS.fresh F3.out 1 (.int .i64 t_)) 4 (.int .i64 v_))
  have HL3x := HL3
  clear HO3 HR3 F3 y1 f1 y4 f4
  generalize (w3.setCell ⟨w.heap.size, 1, none⟩ (.int .i64 t_)).setCell ⟨w.heap.size, 4, none⟩ (.int .i64 v_) = u3 at *
  (try clear k0)
  have k0 : u3.cell? ⟨w.heap.size, 0, none⟩ = some (.int .i64 2) := blk_cell HO3x.out 0
  go_upto_region 9 with (fail)
  cases hp4 : numR s p3 with
  | none =>
    have HP4 := Aside0.mk hp4; clear hp4
    go_wp2_with (first | (go_at_call 45; (with_reducible refine (numr_calls g s p3 _ HR3x.out HL3x.out HS.out).mono ?_); rintro e w4 hx; rw [HP4.out] at hx; obtain ⟨rfl, hf_⟩ := hx; have F4 := Aside0.mk (F3x.out.trans hf_); clear hf_))
    refine ⟨rfl, ?_⟩
    show AfterX g w s p (gaveUp 3) _
    unfold AfterX
    rw [show recR s p = none by rw [HE.out]; simp only [HP2.out, HP3.out, HP4.out, Option.bind_some, Option.bind_none]]
    exact ⟨rfl, F4.out⟩
  | some q_ =>
  obtain ⟨x_, p4⟩ := q_
  have HL4 := Aside0.mk (show p4 ≤ s.size from (rnum_some hp4).2.1)
  have HP4 := Aside0.mk hp4; clear hp4
  go_upto_region 10 with (first | (go_at_call 45; (with_reducible refine (numr_calls g s p3 _ HR3x.out HL3x.out HS.out).mono ?_); rintro e w4 hx; rw [HP4.out] at hx; obtain ⟨rfl, hk_, hf_⟩ := hx; have HR4 := Aside0.mk hk_; have F4 := Aside0.mk (F3x.out.trans hf_); have HO4 := Aside0.mk (hf_.old HO3x.out HGO.out); clear hk_ hf_ HR3x F3x HO3x; have y5 : w4.cell? ⟨w.heap.size, 5, none⟩ = some _ := blk_cell HO4.out 5; have f5 := blk_frozen HO4.out 5))
  have HO4x := Aside0.mk (show (w4.setCell ⟨w.heap.size, 5, none⟩ (.int .i64 x_)).heap[w.heap.size]? = some (.cells #[.int .i64 2, .int .i64 t_, .int .i64 0, .int .i64 0, .int .i64 v_, .int .i64 x_, .int .i64 0, .string ⟨#[]⟩, .string ⟨#[]⟩, .slice none 0 0, .slice none 0 0] 25 (0, 0)) from (set_blk HO4.out 5 (.int .i64 x_)))
  have HR4x := Aside0.mk (show RD (w4.setCell ⟨w.heap.size, 5, none⟩ (.int .i64 x_)) g s p4 from (keep_set HR4.out HGN.out 5 (.int .i64 x_)))
  have F4x := Aside0.mk (FS.fresh F4.out 5 (.int .i64 x_))
  have HL4x := HL4
  clear HO4 HR4 F4 y5 f5
  generalize w4.setCell ⟨w.heap.size, 5, none⟩ (.int .i64 x_) = u4 at *
  (try clear k0)
  have k0 : u4.cell? ⟨w.heap.size, 0, none⟩ = some (.int .i64 2) := blk_cell HO4x.out 0
  go_upto_region 12 with (fail)
  cases hp5 : smallR s p4 with
  | none =>
    have HP5 := Aside0.mk hp5; clear hp5
    go_wp2_with (first | (go_at_call 44; (with_reducible refine (smallr_calls g s p4 _ HR4x.out HL4x.out HS.out).mono ?_); rintro e w5 hx; rw [HP5.out] at hx; obtain ⟨rfl, hf_⟩ := hx; have F5 := Aside0.mk (F4x.out.trans hf_); clear hf_))
    refine ⟨rfl, ?_⟩
    show AfterX g w s p (gaveUp 3) _
    unfold AfterX
    rw [show recR s p = none by rw [HE.out]; simp only [HP2.out, HP3.out, HP4.out, HP5.out, Option.bind_some, Option.bind_none]]
    exact ⟨rfl, F5.out⟩
  | some q_ =>
  obtain ⟨a_, p5⟩ := q_
  have HL5 := Aside0.mk (show p5 ≤ s.size from (small_some hp5).2.1)
  have HNa_ := Aside0.mk (show 0 ≤ a_ ∧ a_ ≤ 255 from (small_some hp5).2.2)
  have HP5 := Aside0.mk hp5; clear hp5
  cases hp6 : smallR s p5 with
  | none =>
    have HP6 := Aside0.mk hp6; clear hp6
    go_wp2_with (first | (go_at_call 44; (with_reducible refine (smallr_calls g s p4 _ HR4x.out HL4x.out HS.out).mono ?_); rintro e w5 hx; rw [HP5.out] at hx; obtain ⟨rfl, hk_, hf_⟩ := hx; have HR5 := Aside0.mk hk_; have F5 := Aside0.mk (F4x.out.trans hf_); have HO5 := Aside0.mk (hf_.old HO4x.out HGO.out); clear hk_ hf_ HR4x F4x HO4x) | (go_at_call 44; (with_reducible refine (smallr_calls g s p5 _ HR5.out HL5.out HS.out).mono ?_); rintro e w6 hx; rw [HP6.out] at hx; obtain ⟨rfl, hf_⟩ := hx; have F6 := Aside0.mk (F5.out.trans hf_); clear hf_))
    refine ⟨rfl, ?_⟩
    show AfterX g w s p (gaveUp 3) _
    unfold AfterX
    rw [show recR s p = none by rw [HE.out]; simp only [HP2.out, HP3.out, HP4.out, HP5.out, HP6.out, Option.bind_some, Option.bind_none]]
    exact ⟨rfl, F6.out⟩
  | some q_ =>
  obtain ⟨b_, p6⟩ := q_
  have HL6 := Aside0.mk (show p6 ≤ s.size from (small_some hp6).2.1)
  have HNb_ := Aside0.mk (show 0 ≤ b_ ∧ b_ ≤ 255 from (small_some hp6).2.2)
  have HP6 := Aside0.mk hp6; clear hp6
  go_upto_region 13 with (first | (go_at_call 44; (with_reducible refine (smallr_calls g s p4 _ HR4x.out HL4x.out HS.out).mono ?_); rintro e w5 hx; rw [HP5.out] at hx; obtain ⟨rfl, hk_, hf_⟩ := hx; have HR5 := Aside0.mk hk_; have F5 := Aside0.mk (F4x.out.trans hf_); have HO5 := Aside0.mk (hf_.old HO4x.out HGO.out); clear hk_ hf_ HR4x F4x HO4x) | (go_at_call 44; (with_reducible refine (smallr_calls g s p5 _ HR5.out HL5.out HS.out).mono ?_); rintro e w6 hx; rw [HP6.out] at hx; obtain ⟨rfl, hk_, hf_⟩ := hx; have HR6 := Aside0.mk hk_; have F6 := Aside0.mk (F5.out.trans hf_); have HO6 := Aside0.mk (hf_.old HO5.out HGO.out); clear hk_ hf_ HR5 F5 HO5; have y2 : w6.cell? ⟨w.heap.size, 2, none⟩ = some _ := blk_cell HO6.out 2; have f2 := blk_frozen HO6.out 2; have y3 : w6.cell? ⟨w.heap.size, 3, none⟩ = some _ := blk_cell HO6.out 3; have f3 := blk_frozen HO6.out 3))
  have HO6x := Aside0.mk (show ((w6.setCell ⟨w.heap.size, 2, none⟩ (.int .i64 a_)).setCell ⟨w.heap.size, 3, none⟩ (.int .i64 b_)).heap[w.heap.size]? = some (.cells #[.int .i64 2, .int .i64 t_, .int .i64 a_, .int .i64 b_, .int .i64 v_, .int .i64 x_, .int .i64 0, .string ⟨#[]⟩, .string ⟨#[]⟩, .slice none 0 0, .slice none 0 0] 25 (0, 0)) from (set_blk (set_blk HO6.out 2 (.int .i64 a_)) 3 (.int .i64 b_)))
  have HR6x := Aside0.mk (show RD ((w6.setCell ⟨w.heap.size, 2, none⟩ (.int .i64 a_)).setCell ⟨w.heap.size, 3, none⟩ (.int .i64 b_)) g s p6 from (keep_set (keep_set HR6.out HGN.out 2 (.int .i64 a_)) HGN.out 3 (.int .i64 b_)))
  have F6x := Aside0.mk (FS.fresh (FS.fresh F6.out 2 (.int .i64 a_)) 3 (.int .i64 b_))
  have HL6x := HL6
  clear HO6 HR6 F6 y2 f2 y3 f3
  generalize (w6.setCell ⟨w.heap.size, 2, none⟩ (.int .i64 a_)).setCell ⟨w.heap.size, 3, none⟩ (.int .i64 b_) = u6 at *
  (try clear k0)
  have k0 : u6.cell? ⟨w.heap.size, 0, none⟩ = some (.int .i64 2) := blk_cell HO6x.out 0
  cases hp7 : smallR s p6 with
  | none =>
    have HP7 := Aside0.mk hp7; clear hp7
    go_wp2_with (first | (go_at_call 44; (with_reducible refine (smallr_calls g s p6 _ HR6x.out HL6x.out HS.out).mono ?_); rintro e w7 hx; rw [HP7.out] at hx; obtain ⟨rfl, hf_⟩ := hx; have F7 := Aside0.mk (F6x.out.trans hf_); clear hf_))
    refine ⟨rfl, ?_⟩
    show AfterX g w s p (gaveUp 3) _
    unfold AfterX
    rw [show recR s p = none by rw [HE.out]; simp only [HP2.out, HP3.out, HP4.out, HP5.out, HP6.out, HP7.out, Option.bind_some, Option.bind_none]]
    exact ⟨rfl, F7.out⟩
  | some q_ =>
  obtain ⟨n_, p7⟩ := q_
  have HL7 := Aside0.mk (show p7 ≤ s.size from (small_some hp7).2.1)
  have HNn_ := Aside0.mk (show 0 ≤ n_ ∧ n_ ≤ 255 from (small_some hp7).2.2)
  have HP7 := Aside0.mk hp7; clear hp7
  go_upto_region 14 with (first | (go_at_call 44; (with_reducible refine (smallr_calls g s p6 _ HR6x.out HL6x.out HS.out).mono ?_); rintro e w7 hx; rw [HP7.out] at hx; obtain ⟨rfl, hk_, hf_⟩ := hx; have HR7 := Aside0.mk hk_; have F7 := Aside0.mk (F6x.out.trans hf_); have HO7 := Aside0.mk (hf_.old HO6x.out HGO.out); clear hk_ hf_ HR6x F6x HO6x))
  (try clear k0)
  have k0 : w7.cell? ⟨w.heap.size, 0, none⟩ = some (.int .i64 2) := blk_cell HO7.out 0
  go_upto_region 16 with (fail)
  cases hp8 : takeR s p7 n_.toNat with
  | none =>
    have HP8 := Aside0.mk hp8; clear hp8
    go_wp2_with (first | (go_at_call 46; (with_reducible refine (take_lit g s p7 n_.toNat n_ (Int.toNat_of_nonneg HNn_.out.1).symm _ HR7.out HL7.out HS.out (by have := HNn_.out.2; omega)).mono ?_); rintro e w8 hx; rw [HP8.out] at hx; obtain ⟨rfl, hf_⟩ := hx; have F8 := Aside0.mk (F7.out.trans hf_); clear hf_))
    refine ⟨rfl, ?_⟩
    show AfterX g w s p (gaveUp 3) _
    unfold AfterX
    rw [show recR s p = none by rw [HE.out]; simp only [HP2.out, HP3.out, HP4.out, HP5.out, HP6.out, HP7.out, HP8.out, Option.bind_some, Option.bind_none]]
    exact ⟨rfl, F8.out⟩
  | some q_ =>
  obtain ⟨d_, p8⟩ := q_
  have HL8 := Aside0.mk (show p8 ≤ s.size from (take_size hp8).2.2)
  have HP8 := Aside0.mk hp8; clear hp8
  go_upto_region 27 with (first | (go_at_call 46; (with_reducible refine (take_lit g s p7 n_.toNat n_ (Int.toNat_of_nonneg HNn_.out.1).symm _ HR7.out HL7.out HS.out (by have := HNn_.out.2; omega)).mono ?_); rintro e w8 hx; rw [HP8.out] at hx; obtain ⟨rfl, hk_, hf_⟩ := hx; have HR8 := Aside0.mk hk_; have F8 := Aside0.mk (F7.out.trans hf_); have HO8 := Aside0.mk (hf_.old HO7.out HGO.out); clear hk_ hf_ HR7 F7 HO7; have y8 : w8.cell? ⟨w.heap.size, 8, none⟩ = some _ := blk_cell HO8.out 8; have f8 := blk_frozen HO8.out 8))
  have HO8x := Aside0.mk (show (w8.setCell ⟨w.heap.size, 8, none⟩ (.string d_)).heap[w.heap.size]? = some (.cells #[.int .i64 2, .int .i64 t_, .int .i64 a_, .int .i64 b_, .int .i64 v_, .int .i64 x_, .int .i64 0, .string ⟨#[]⟩, .string d_, .slice none 0 0, .slice none 0 0] 25 (0, 0)) from (set_blk HO8.out 8 (.string d_)))
  have HR8x := Aside0.mk (show RD (w8.setCell ⟨w.heap.size, 8, none⟩ (.string d_)) g s p8 from (keep_set HR8.out HGN.out 8 (.string d_)))
  have F8x := Aside0.mk (FS.fresh F8.out 8 (.string d_))
  have HL8x := HL8
  clear HO8 HR8 F8 y8 f8
  generalize w8.setCell ⟨w.heap.size, 8, none⟩ (.string d_) = u8 at *
  (try clear k0)
  have k0 : u8.cell? ⟨w.heap.size, 0, none⟩ = some (.int .i64 2) := blk_cell HO8x.out 0
  clear k0
  have x0 : u8.cell? ⟨w.heap.size, 0, none⟩ = some _ := blk_cell HO8x.out 0; have f0 := blk_frozen HO8x.out 0
  have x1 : u8.cell? ⟨w.heap.size, 1, none⟩ = some _ := blk_cell HO8x.out 1; have f1 := blk_frozen HO8x.out 1
  have x2 : u8.cell? ⟨w.heap.size, 2, none⟩ = some _ := blk_cell HO8x.out 2; have f2 := blk_frozen HO8x.out 2
  have x3 : u8.cell? ⟨w.heap.size, 3, none⟩ = some _ := blk_cell HO8x.out 3; have f3 := blk_frozen HO8x.out 3
  have x4 : u8.cell? ⟨w.heap.size, 4, none⟩ = some _ := blk_cell HO8x.out 4; have f4 := blk_frozen HO8x.out 4
  have x5 : u8.cell? ⟨w.heap.size, 5, none⟩ = some _ := blk_cell HO8x.out 5; have f5 := blk_frozen HO8x.out 5
  have x6 : u8.cell? ⟨w.heap.size, 6, none⟩ = some _ := blk_cell HO8x.out 6; have f6 := blk_frozen HO8x.out 6
  have x7 : u8.cell? ⟨w.heap.size, 7, none⟩ = some _ := blk_cell HO8x.out 7; have f7 := blk_frozen HO8x.out 7
  have x8 : u8.cell? ⟨w.heap.size, 8, none⟩ = some _ := blk_cell HO8x.out 8; have f8 := blk_frozen HO8x.out 8
  have x9 : u8.cell? ⟨w.heap.size, 9, none⟩ = some _ := blk_cell HO8x.out 9; have f9 := blk_frozen HO8x.out 9
  have x10 : u8.cell? ⟨w.heap.size, 10, none⟩ = some _ := blk_cell HO8x.out 10; have f10 := blk_frozen HO8x.out 10
  have HB_ := HO8x; have HRR := HR8x; have FFF := F8x
  go_wp2
  refine bodyPost_ret (v := .agg #[.int .i64 2, .int .i64 t_, .int .i64 a_, .int .i64 b_, .int .i64 v_, .int .i64 x_, .int .i64 0, .string ⟨#[]⟩, .string d_, .slice none 0 0, .slice none 0 0]) (by simp [results, Try.results31, go_sem, x0, x1, x2, x3, x4, x5, x6, x7, x8, x9, x10]) rfl ?_
  show AfterX g w s p _ _
  unfold AfterX
  rw [show recR s p = some ((⟨2, t_, a_, b_, v_, x_, 0, ⟨#[]⟩, d_, [], []⟩ : S25), p8) by rw [HE.out]; (try simp only [HP2.out, HP3.out, HP4.out, HP5.out, HP6.out, HP7.out, HP8.out, Option.bind_some])]
  refine ⟨_, _, rfl, Kd.R_nil _ _ _ _ _, Kd.R_nil _ _ _ _ _, ?_, ?_⟩
  · show RD _ g s p8
    repeat (first | (with_reducible refine RD.keep ?_ HGN.out _ _) | (with_reducible exact HRR.out))
  · repeat (first | (with_reducible refine FS.fresh ?_ _ _) | (with_reducible exact FFF.out))
set_option maxHeartbeats 4000000 in
theorem rrec_none (g : Nat) (s : ByteArray) (p p1 : Nat) (v0 : Int) (hk : v0 ≠ 1 ∧ v0 ≠ 2 ∧ ¬ (v0 = 3 ∨ v0 = 4) ∧ v0 ≠ 6) (w : World) (h : RD w g s p) (hp : p ≤ s.size) (hs : s.size ≤ 1000000000) (h0 : smallR s p = some (v0, p1)) : Calls Try.prog 31 #[.pointer (some ⟨g, 0, none⟩)] w fun x w' => AfterX g w s p x w' := by
  have HS := Aside0.mk (show s.size ≤ 1000000000000 by omega); have HL := Aside0.mk hp
  have HE := Aside0.mk (show recR s p = some (⟨v0, 0, 0, 0, 0, 0, 0, ⟨#[]⟩, ⟨#[]⟩, [], []⟩, p1) by unfold recR; rw [h0, Option.bind_some]; simp only; rw [if_neg hk.1, if_neg hk.2.1, if_neg hk.2.2.1, if_neg hk.2.2.2])
  have HL1 := Aside0.mk (show p1 ≤ s.size from (small_some h0).2.1)
  have HP1 := Aside0.mk h0
  have HGN := Aside0.mk (show g ≠ w.heap.size from Nat.ne_of_lt (blk_lt h))
  have HGO := Aside0.mk (show ¬ One g w.heap.size from fun e => HGN.out (e : w.heap.size = g).symm)
  have HR0 := Aside0.mk (h.below ((Below.refl _ _).alloc (Nat.le_refl _) (.cells #[.int .i64 0, .int .i64 0, .int .i64 0, .int .i64 0, .int .i64 0, .int .i64 0, .int .i64 0, .string ⟨#[]⟩, .string ⟨#[]⟩, .slice none 0 0, .slice none 0 0] 25)))
  have F0 := Aside0.mk ((FS.refl (One g) w).alloc (.cells #[.int .i64 0, .int .i64 0, .int .i64 0, .int .i64 0, .int .i64 0, .int .i64 0, .int .i64 0, .string ⟨#[]⟩, .string ⟨#[]⟩, .slice none 0 0, .slice none 0 0] 25))
  have HO0 := Aside0.mk (heap_alloc_new w (.cells #[.int .i64 0, .int .i64 0, .int .i64 0, .int .i64 0, .int .i64 0, .int .i64 0, .int .i64 0, .string ⟨#[]⟩, .string ⟨#[]⟩, .slice none 0 0, .slice none 0 0] 25))
  have e1 : (v0 == 1) = false := by rw [beq_eq_false_iff_ne]; exact hk.1
  have e2 : (v0 == 2) = false := by rw [beq_eq_false_iff_ne]; exact hk.2.1
  have e3 : (v0 == 3) = false := by rw [beq_eq_false_iff_ne]; omega
  have e4 : (v0 == 4) = false := by rw [beq_eq_false_iff_ne]; omega
  have e6 : (v0 == 6) = false := by rw [beq_eq_false_iff_ne]; exact hk.2.2.2
  clear h hp hs h0 hk
  go_enter Try.func31, Try.ntmps31
  go_upto_region 1 with (fail)
  generalize w.alloc (.cells #[.int .i64 0, .int .i64 0, .int .i64 0, .int .i64 0, .int .i64 0, .int .i64 0, .int .i64 0, .string ⟨#[]⟩, .string ⟨#[]⟩, .slice none 0 0, .slice none 0 0] 25) = W1 at *
  go_upto_region 2 with (go_at_call 44; (with_reducible refine (smallr_calls g s p _ HR0.out HL.out HS.out).mono ?_); rintro e w1 hx; rw [HP1.out] at hx; obtain ⟨rfl, hk_, hf_⟩ := hx; have HR1 := Aside0.mk hk_; have F1 := Aside0.mk (F0.out.trans hf_); have HO1 := Aside0.mk (hf_.old HO0.out HGO.out); clear hk_ hf_ HR0 F0 HO0; have y0 : w1.cell? ⟨w.heap.size, 0, none⟩ = some _ := blk_cell HO1.out 0; have f0 := blk_frozen HO1.out 0)
  have HO1x := Aside0.mk (show (w1.setCell ⟨w.heap.size, 0, none⟩ (.int .i64 v0)).heap[w.heap.size]? = some (.cells #[.int .i64 v0, .int .i64 0, .int .i64 0, .int .i64 0, .int .i64 0, .int .i64 0, .int .i64 0, .string ⟨#[]⟩, .string ⟨#[]⟩, .slice none 0 0, .slice none 0 0] 25 (0, 0)) from set_blk HO1.out 0 (.int .i64 v0))
  have HR1x := Aside0.mk (show RD (w1.setCell ⟨w.heap.size, 0, none⟩ (.int .i64 v0)) g s p1 from keep_set HR1.out HGN.out 0 _)
  have F1x := Aside0.mk (FS.fresh F1.out 0 (.int .i64 v0))
  have HL1x := HL1
  clear HO1 HR1 F1 y0 f0
  generalize w1.setCell ⟨w.heap.size, 0, none⟩ (.int .i64 v0) = u1 at *
  have k0 : u1.cell? ⟨w.heap.size, 0, none⟩ = some (.int .i64 v0) := blk_cell HO1x.out 0
  go_upto_region 27 with (fail)
  clear k0
  have x0 : u1.cell? ⟨w.heap.size, 0, none⟩ = some _ := blk_cell HO1x.out 0; have f0 := blk_frozen HO1x.out 0
  have x1 : u1.cell? ⟨w.heap.size, 1, none⟩ = some _ := blk_cell HO1x.out 1; have f1 := blk_frozen HO1x.out 1
  have x2 : u1.cell? ⟨w.heap.size, 2, none⟩ = some _ := blk_cell HO1x.out 2; have f2 := blk_frozen HO1x.out 2
  have x3 : u1.cell? ⟨w.heap.size, 3, none⟩ = some _ := blk_cell HO1x.out 3; have f3 := blk_frozen HO1x.out 3
  have x4 : u1.cell? ⟨w.heap.size, 4, none⟩ = some _ := blk_cell HO1x.out 4; have f4 := blk_frozen HO1x.out 4
  have x5 : u1.cell? ⟨w.heap.size, 5, none⟩ = some _ := blk_cell HO1x.out 5; have f5 := blk_frozen HO1x.out 5
  have x6 : u1.cell? ⟨w.heap.size, 6, none⟩ = some _ := blk_cell HO1x.out 6; have f6 := blk_frozen HO1x.out 6
  have x7 : u1.cell? ⟨w.heap.size, 7, none⟩ = some _ := blk_cell HO1x.out 7; have f7 := blk_frozen HO1x.out 7
  have x8 : u1.cell? ⟨w.heap.size, 8, none⟩ = some _ := blk_cell HO1x.out 8; have f8 := blk_frozen HO1x.out 8
  have x9 : u1.cell? ⟨w.heap.size, 9, none⟩ = some _ := blk_cell HO1x.out 9; have f9 := blk_frozen HO1x.out 9
  have x10 : u1.cell? ⟨w.heap.size, 10, none⟩ = some _ := blk_cell HO1x.out 10; have f10 := blk_frozen HO1x.out 10
  have HB_ := HO1x; have HRR := HR1x; have FFF := F1x
  go_wp2
  refine bodyPost_ret (v := .agg #[.int .i64 v0, .int .i64 0, .int .i64 0, .int .i64 0, .int .i64 0, .int .i64 0, .int .i64 0, .string ⟨#[]⟩, .string ⟨#[]⟩, .slice none 0 0, .slice none 0 0]) (by simp [results, Try.results31, go_sem, x0, x1, x2, x3, x4, x5, x6, x7, x8, x9, x10]) rfl ?_
  show AfterX g w s p _ _
  unfold AfterX
  rw [show recR s p = some ((⟨v0, 0, 0, 0, 0, 0, 0, ⟨#[]⟩, ⟨#[]⟩, [], []⟩ : S25), p1) by rw [HE.out]; (try simp only [Option.bind_some])]
  refine ⟨_, _, rfl, Kd.R_nil _ _ _ _ _, Kd.R_nil _ _ _ _ _, ?_, ?_⟩
  · show RD _ g s p1
    repeat (first | (with_reducible refine RD.keep ?_ HGN.out _ _) | (with_reducible exact HRR.out))
  · repeat (first | (with_reducible refine FS.fresh ?_ _ _) | (with_reducible exact FFF.out))
end Go.Proofs.Ytcfknakmamcinaa.Wr
