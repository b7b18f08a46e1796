import Derived.Test.YtbdfdfahpdilpaaM3
import Derived.Test.YtbdfdfahpdilpaaZB
/-! Layer 12: awake; laws. -/
namespace Go.Proofs.Ytbdfdfahpdilpaa.X12
open Go Go.RowKit Go.ChangeMaps Go.Proofs.Ytbdfdfahpdilpaa.Arr Go.Proofs.Ytbdfdfahpdilpaa.Mp Go.Proofs.Ytbdfdfahpdilpaa.Ow Go.Proofs.Ytbdfdfahpdilpaa.Dk Go.Proofs.Ytbdfdfahpdilpaa.Slab Go.Proofs.YtbdfdfahpdilpaaW.PrintWords Go.Proofs.YtbdfdfahpdilpaaW.PrintLast Go.Proofs.YtbdfdfahpdilpaaW.PrintMore
set_option linter.unusedVariables false
set_option linter.unusedSimpArgs false
theorem c2_new {c : Nat → Nat} {B n m : Nat} (_ : Olds c B) (h : n ≤ m) : Dk.paint c n 2 m = 2 := paint_new h
theorem ok_writeM {n : Nat} {d : DS} {base t c l : Int} (h : OkN n d) (hn : n < 1000000) : OkN (n + 1) (writeMD d base t c l) := by
  unfold writeMD
  split
  · exact h.mono (by omega)
  · split
    · exact h.mono (by omega)
    · split
      · exact ok_write h hn
      · exact ok_sync (ok_write h hn)
set_option maxHeartbeats 1000000 in
set_option maxRecDepth 20000 in
theorem mwrite_nil (base t c l : Int) (w : World) : Calls Try.prog 35 #[.pointer none, .int .i64 base, .int .u32 t, .agg #[.int .i64 c, .int .i64 l]] w fun e w' => e = .returned (.int .i64 10) ∧ Below w.heap.size w w' := by
  go_enter Try.func35, Try.ntmps35
  go_upto_region 1 with (fail)
  have hbb := (Below.refl w.heap.size w).alloc (Nat.le_refl _) (.cells #[.int .i64 c, .int .i64 l] 61)
  have F := Aside0.mk hbb
  clear hbb
  generalize w.alloc (.cells #[.int .i64 c, .int .i64 l] 61) = W at *
  go_wp2_with (go_at_call 50; (with_reducible refine (mthere_nil _ _).mono ?_); rintro e w1 ⟨rfl, hb1⟩; have F_n := Aside0.mk (Arr.below_trans F.out hb1); clear F hb1; have F := F_n; clear F_n)
  go_ret
  exact ⟨rfl, F.out⟩
def aw12 : DS := writeMD (newD 2) 0 1 300 2
theorem aw12_r1 : ((readM (newD 2) 0).1.c = 0 ∧ (readM (newD 2) 0).1.l = 1) ∧ (readM (newD 2) 0).1.t = 0 ∧ (readM (newD 2) 0).2 = 0 := by decide +kernel
theorem aw12_w1 : writeME (newD 2) 0 1 300 2 = 0 := by decide +kernel
theorem aw12_r2 : ((readM aw12 0).1.c = 300 ∧ (readM aw12 0).1.l = 2) ∧ (readM aw12 0).1.t = 1 ∧ (readM aw12 0).2 = 0 := by decide +kernel
theorem aw12_w2 : writeME aw12 0 2 0 0 = 1 := by decide +kernel
theorem aw12_w3 : writeME aw12 1 2 0 1 = 1 := by decide +kernel
theorem aw12_both : bothE aw12 0 = 0 ∧ bothE aw12 1 = 1 := by decide +kernel
theorem aw12_d2 : writeMD aw12 0 2 0 0 = aw12 := by
  unfold writeMD
  rw [if_neg (by rw [aw12_both.1]; decide), if_pos (by decide)]
theorem aw12_d3 : writeMD aw12 1 2 0 1 = aw12 := by
  unfold writeMD
  rw [if_pos (by rw [aw12_both.2]; decide)]
theorem aw12_ex : ∃ d : DS, writeMD (newD 2) 0 1 300 2 = d ∧ (((readM d 0).1.c = 300 ∧ (readM d 0).1.l = 2) ∧ (readM d 0).1.t = 1 ∧ (readM d 0).2 = 0) ∧ writeME d 0 2 0 0 = 1 ∧ writeME d 1 2 0 1 = 1 ∧ writeMD d 0 2 0 0 = d ∧ writeMD d 1 2 0 1 = d ∧ OkN 1 d :=
  ⟨aw12, rfl, aw12_r2, aw12_w2, aw12_w3, aw12_d2, aw12_d3, ok_writeM (ok_new 2 (by decide)) (by decide)⟩
set_option maxHeartbeats 8000000 in
set_option maxRecDepth 20000 in
theorem awake12_calls (w : World) : Calls Try.prog 34 #[] w fun e w' => e = .returned (.bool true) ∧ Below w.heap.size w w' := by
  have hnew : ∀ w, Calls Try.prog 13 #[.int .i64 2] w fun e w' => ∃ g, w.heap.size ≤ g ∧ e = .returned (.tuple #[.pointer (some ⟨g, 0, none⟩), .int .i64 0]) ∧ DK w' (fun k => w.heap.size ≤ k) g (newD 2) ∧ Below w.heap.size w w' := fun w => new_calls 2 (by decide) (by decide) w
  obtain ⟨dw, hdw, hr2, hw2, hw3, hd2, hd3, hod⟩ := aw12_ex
  have hR1 : ∀ w S g, DK w S g (newD 2) → Calls Try.prog 33 #[.pointer (some ⟨g, 0, none⟩), .int .i64 0] w fun e w' => e = .returned (.tuple #[.agg #[.int .i64 0, .int .i64 1], .int .u32 0, .int .i64 0]) ∧ Below w.heap.size w w' := fun w S g hk => by
    have h := mread_calls (newD 2) g 0 S w hk (ok_new 2 (by decide)).ok
    rw [aw12_r1.1.1, aw12_r1.1.2, aw12_r1.2.1, aw12_r1.2.2] at h
    exact h
  have hR2 : ∀ w S g, DK w S g dw → OkD dw → Calls Try.prog 33 #[.pointer (some ⟨g, 0, none⟩), .int .i64 0] w fun e w' => e = .returned (.tuple #[.agg #[.int .i64 300, .int .i64 2], .int .u32 1, .int .i64 0]) ∧ Below w.heap.size w w' := fun w S g hk ho => by
    have h := mread_calls dw g 0 S w hk ho
    rw [hr2.1.1, hr2.1.2, hr2.2.1, hr2.2.2] at h
    exact h
  have hW1 : ∀ w S g, Top S w → DK w S g (newD 2) → Calls Try.prog 35 #[.pointer (some ⟨g, 0, none⟩), .int .i64 0, .int .u32 1, .agg #[.int .i64 300, .int .i64 2]] w fun e w' => e = .returned (.int .i64 0) ∧ DK w' S g dw ∧ FS S w w' := fun w S g ht hk => by
    have h := mwrite_calls (newD 2) g 0 1 300 2 S w ht hk (ok_new 2 (by decide)) (by decide) (by decide)
    rw [aw12_w1, hdw] at h
    exact h
  have hW2 : ∀ w S g, Top S w → DK w S g dw → OkN 1 dw → Calls Try.prog 35 #[.pointer (some ⟨g, 0, none⟩), .int .i64 0, .int .u32 2, .agg #[.int .i64 0, .int .i64 0]] w fun e w' => e = .returned (.int .i64 1) ∧ DK w' S g dw ∧ FS S w w' := fun w S g ht hk ho => by
    have h := mwrite_calls dw g 0 2 0 0 S w ht hk ho (by decide) (by decide)
    rw [hw2, hd2] at h
    exact h
  have hW3 : ∀ w S g, Top S w → DK w S g dw → OkN 1 dw → Calls Try.prog 35 #[.pointer (some ⟨g, 0, none⟩), .int .i64 1, .int .u32 2, .agg #[.int .i64 0, .int .i64 1]] w fun e w' => e = .returned (.int .i64 1) ∧ DK w' S g dw ∧ FS S w w' := fun w S g ht hk ho => by
    have h := mwrite_calls dw g 1 2 0 1 S w ht hk ho (by decide) (by decide)
    rw [hw3, hd3] at h
    exact h
  have HR1 := Aside0.mk hR1; have HR2 := Aside0.mk hR2; have HW1 := Aside0.mk hW1; have HW2 := Aside0.mk hW2; have HW3 := Aside0.mk hW3
  clear hR1 hR2 hW1 hW2 hW3
  have HOD := Aside0.mk hod
  clear hdw hr2 hw2 hw3 hd2 hd3 hod
  go_enter Try.func34, Try.ntmps34
  go_upto_region 2 with (go_at_call 13; (with_reducible refine (hnew _).mono ?_); rintro e w1 ⟨ga, hge, rfl, hk1, hb1⟩; have HKa := Aside0.mk (hk1.fresh (fun _ => 0) 1); have C := Aside0.mk (olds_paint0 w.heap.size w.heap.size 1 (Nat.le_refl _)); have F := Aside0.mk (FS.of_below hb1); clear hk1 hb1 hge)
  go_upto_region 3 with (go_at_call 33; (with_reducible refine (HR1.out _ _ _ HKa.out).mono ?_); rintro e w1 ⟨rfl, hb1⟩; have HKa_n := Aside0.mk (HKa.out.below hb1); have F_n := Aside0.mk (F.out.below hb1); clear HKa F; have HKa := HKa_n; have F := F_n; clear HKa_n F_n; clear hb1; have hb2 := (Below.refl w1.heap.size w1).alloc (Nat.le_refl _) (.cells #[.int .i64 0, .int .i64 1] 61); have HM1 := Aside0.mk (And.intro (heap_alloc_new w1 (.cells #[.int .i64 0, .int .i64 1] 61)) (c2_new C.out (Nat.le_refl w1.heap.size))); have HKa_n := Aside0.mk ((HKa.out.paint 2).below hb2); have F_n := Aside0.mk (F.out.below hb2); have C_n := Aside0.mk (C.out.paint 2 F.out.size); clear HKa F C; have HKa := HKa_n; have F := F_n; have C := C_n; clear HKa_n F_n C_n; clear hb2)
  have HOa := Aside0.mk (ok_new 2 (by decide))
  generalize Dk.paint (Dk.paint (fun _ => 0) w.heap.size 1) w1.heap.size 2 = cl at *
  generalize w1.alloc (.cells #[.int .i64 0, .int .i64 1] 61) = X1 at *
  generalize w1.heap.size = m1 at *
  go_upto_region 4 with (go_at_call 35; (with_reducible refine (HW1.out _ _ _ (top_paint _ _ 1) (HKa.out.paint 1)).mono ?_); rintro e w1 ⟨rfl, hk1, hf1⟩; have HKa_n := Aside0.mk (hk1); have F_n := Aside0.mk (F.out.trans (FS.base hf1 C.out (by decide))); have C_n := Aside0.mk (C.out.paint 1 F.out.size); have HOa_n := Aside0.mk (okOf hk1 (HOD.out)); have HM1_n := Aside0.mk (blk_apart HM1.out.1 HM1.out.2 hf1 (by decide)); clear HKa F C HOa HM1; have HKa := HKa_n; have F := F_n; have C := C_n; have HOa := HOa_n; have HM1 := HM1_n; clear HKa_n F_n C_n HOa_n HM1_n; clear hk1 hf1)
  go_upto_region 5 with (go_at_call 33; (with_reducible refine (HR2.out _ _ _ HKa.out HOD.out.ok).mono ?_); rintro e w1 ⟨rfl, hb1⟩; have HKa_n := Aside0.mk (HKa.out.below hb1); have F_n := Aside0.mk (F.out.below hb1); have HM1_n := Aside0.mk (And.intro (blk_below HM1.out.1 hb1) HM1.out.2); clear HKa F HM1; have HKa := HKa_n; have F := F_n; have HM1 := HM1_n; clear HKa_n F_n HM1_n; clear hb1; have hb2 := (Below.refl w1.heap.size w1).alloc (Nat.le_refl _) (.cells #[.int .i64 300, .int .i64 2] 61); have HM2 := Aside0.mk (And.intro (heap_alloc_new w1 (.cells #[.int .i64 300, .int .i64 2] 61)) (c2_new C.out (Nat.le_refl w1.heap.size))); have HKa_n := Aside0.mk ((HKa.out.paint 2).below hb2); have F_n := Aside0.mk (F.out.below hb2); have C_n := Aside0.mk (C.out.paint 2 F.out.size); have HM1_n := Aside0.mk (And.intro (blk_below HM1.out.1 hb2) ((paint_old (x := 2) (blk_lt HM1.out.1)).trans HM1.out.2)); clear HKa F C HM1; have HKa := HKa_n; have F := F_n; have C := C_n; have HM1 := HM1_n; clear HKa_n F_n C_n HM1_n; clear hb2)
  generalize hX2 : w1.alloc (.cells #[.int .i64 300, .int .i64 2] 61) = X2 at *
  generalize w1.heap.size = m2 at *
  clear hX2
  have a0 : X2.cell? ⟨m1, 0, none⟩ = some (.int .i64 0) := blk_cell HM1.out.1 0
  have a1 : X2.cell? ⟨m1, 1, none⟩ = some (.int .i64 1) := blk_cell HM1.out.1 1
  have b0 : X2.cell? ⟨m2, 0, none⟩ = some (.int .i64 300) := blk_cell HM2.out.1 0
  have b1 : X2.cell? ⟨m2, 1, none⟩ = some (.int .i64 2) := blk_cell HM2.out.1 1
  go_wp2_with (first | (go_at_call 35; (with_reducible refine (HW2.out _ _ _ (top_paint _ _ 1) (HKa.out.paint 1) HOD.out).mono ?_); rintro e w1 ⟨rfl, hk1, hf1⟩; have HKa_n := Aside0.mk (hk1); have F_n := Aside0.mk (F.out.trans (FS.base hf1 C.out (by decide))); have C_n := Aside0.mk (C.out.paint 1 F.out.size); have HOa_n := Aside0.mk (okOf hk1 (HOD.out)); have HM1_n := Aside0.mk (blk_apart HM1.out.1 HM1.out.2 hf1 (by decide)); have HM2_n := Aside0.mk (blk_apart HM2.out.1 HM2.out.2 hf1 (by decide)); clear HKa F C HOa HM1 HM2; have HKa := HKa_n; have F := F_n; have C := C_n; have HOa := HOa_n; have HM1 := HM1_n; have HM2 := HM2_n; clear HKa_n F_n C_n HOa_n HM1_n HM2_n; clear hk1 hf1; clear a0 a1 b0 b1; have a0 : w1.cell? ⟨m1, 0, none⟩ = some (.int .i64 0) := blk_cell HM1.out.1 0; have a1 : w1.cell? ⟨m1, 1, none⟩ = some (.int .i64 1) := blk_cell HM1.out.1 1) | (go_at_call 35; (with_reducible refine (HW3.out _ _ _ (top_paint _ _ 1) (HKa.out.paint 1) HOD.out).mono ?_); rintro e w1 ⟨rfl, hk1, hf1⟩; have HKa_n := Aside0.mk (hk1); have F_n := Aside0.mk (F.out.trans (FS.base hf1 C.out (by decide))); have C_n := Aside0.mk (C.out.paint 1 F.out.size); have HOa_n := Aside0.mk (okOf hk1 (HOD.out)); have HM1_n := Aside0.mk (blk_apart HM1.out.1 HM1.out.2 hf1 (by decide)); have HM2_n := Aside0.mk (blk_apart HM2.out.1 HM2.out.2 hf1 (by decide)); clear HKa F C HOa HM1 HM2; have HKa := HKa_n; have F := F_n; have C := C_n; have HOa := HOa_n; have HM1 := HM1_n; have HM2 := HM2_n; clear HKa_n F_n C_n HOa_n HM1_n HM2_n; clear hk1 hf1))
  go_ret
  exact ⟨rfl, FS.up F.out (Nat.le_refl _)⟩
set_option maxHeartbeats 1000000 in
theorem mnil_walk (base c l : Int) (w : World) : Calls Try.prog 9 #[.int .i64 base, .agg #[.int .i64 c, .int .i64 l]] w fun e w' => e = .returned (.bool true) ∧ Below w.heap.size w w' := by
  have HB := Aside0.mk (Below.refl w.heap.size w)
  go_enter Try.func9, Try.ntmps9
  go_upto_region 1 with (fail)
  have HP := Aside0.mk (heap_alloc_new w (.cells #[.int .i64 c, .int .i64 l] 61))
  have HB_n := Aside0.mk (HB.out.alloc (Nat.le_refl _) (.cells #[.int .i64 c, .int .i64 l] 61))
  clear HB
  have HB := HB_n; clear HB_n
  generalize w.alloc (.cells #[.int .i64 c, .int .i64 l] 61) = W at *
  go_upto_region 2 with (go_at_call 33; (with_reducible refine (mread_nil _ _).mono ?_); rintro e w1 ⟨rfl, hb1⟩; have hb2 := Arr.below_trans hb1 ((Below.refl w1.heap.size w1).alloc (Nat.le_refl _) (.cells #[.int .i64 0, .int .i64 0] 61)); have HB_n := Aside0.mk (Arr.below_trans HB.out hb2); have HP_n := Aside0.mk (blk_below HP.out hb2); clear HB HP hb1 hb2; have HB := HB_n; have HP := HP_n; clear HB_n HP_n)
  generalize w1.alloc (.cells #[.int .i64 0, .int .i64 0] 61) = X at *
  go_wp2_with (first | (go_at_call 34; (with_reducible refine (awake12_calls _).mono ?_); rintro e w2 ⟨rfl, hb1⟩; have HB_n := Aside0.mk (Arr.below_trans HB.out hb1); have HP_n := Aside0.mk (blk_below HP.out hb1); clear HB HP hb1; have HB := HB_n; have HP := HP_n; clear HB_n HP_n; have p0 : w2.cell? ⟨w.heap.size, 0, none⟩ = some (.int .i64 c) := blk_cell HP.out 0; have p1 : w2.cell? ⟨w.heap.size, 1, none⟩ = some (.int .i64 l) := blk_cell HP.out 1) | (go_at_call 35; (with_reducible refine (mwrite_nil _ _ _ _ _).mono ?_); rintro e w3 ⟨rfl, hb1⟩; have HB_n := Aside0.mk (Arr.below_trans HB.out hb1); clear HB HP hb1; have HB := HB_n; clear HB_n))
  go_ret
  exact ⟨rfl, HB.out⟩
end Go.Proofs.Ytbdfdfahpdilpaa.X12
