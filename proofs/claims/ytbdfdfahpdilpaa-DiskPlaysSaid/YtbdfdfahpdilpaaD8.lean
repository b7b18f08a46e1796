import Derived.Test.YtbdfdfahpdilpaaZB
/-! Layer 3: awake is true. -/
namespace Go.Proofs.Ytbdfdfahpdilpaa.Dk
open Go Go.RowKit Go.ChangeMaps Go.Proofs.Ytbdfdfahpdilpaa.Arr Go.Proofs.Ytbdfdfahpdilpaa.Mp Go.Proofs.Ytbdfdfahpdilpaa.Ow Go.Proofs.YtbdfdfahpdilpaaW.PrintWords Go.Proofs.YtbdfdfahpdilpaaW.PrintLast Go.Proofs.YtbdfdfahpdilpaaW.PrintMore
set_option linter.unusedVariables false
set_option linter.unusedSimpArgs false
set_option maxHeartbeats 8000000 in
set_option maxRecDepth 20000 in
theorem awake_calls (w : World) : Calls Try.prog 14 #[] w fun e w' => e = .returned (.bool true) ∧ Below w.heap.size w w' := by
  have hfa : ∀ w, Calls Try.prog 17 #[.int .u8 97] w fun e w' => e = .returned (.string (fullS 97)) ∧ Below w.heap.size w w' := fun w => full_calls 97 w
  have hfb : ∀ w, Calls Try.prog 17 #[.int .u8 98] w fun e w' => e = .returned (.string (fullS 98)) ∧ Below w.heap.size w w' := fun w => full_calls 98 w
  have hfz : ∀ w, Calls Try.prog 17 #[.int .u8 0] w fun e w' => e = .returned (.string (fullS 0)) ∧ Below w.heap.size w w' := fun w => full_calls 0 w
  have hfx : ∀ w, Calls Try.prog 17 #[.int .u8 120] w fun e w' => e = .returned (.string (fullS 120)) ∧ Below w.heap.size w w' := fun w => full_calls 120 w
  have hfy : ∀ w, Calls Try.prog 17 #[.int .u8 121] w fun e w' => e = .returned (.string (fullS 121)) ∧ Below w.heap.size w w' := fun w => full_calls 121 w
  have hnew : ∀ w, Calls Try.prog 13 #[.int .i64 2] w fun e w' => ∃ g, w.heap.size ≤ g ∧ e = .returned (.tuple #[.pointer (some ⟨g, 0, none⟩), .int .i64 0]) ∧ DK w' (fun k => w.heap.size ≤ k) g (newD 2) ∧ Below w.heap.size w w' := fun w => new_calls 2 (by decide) (by decide) w
  have hpk0 : ∀ (W : World) (S : Nat → Prop), Pk (W.alloc (.cells #[.int .u8 0] TB)) S (some ⟨W.heap.size, 0, none⟩) 1 (fun _ => 0) := fun W S => pk_one W S 0
  have hpb0 : ∀ i : Nat, (fun _ : Nat => 0) i < 256 := fun _ => by show 0 < 256; decide
  have hpk1 : ∀ (W : World) (S : Nat → Prop), Pk (W.alloc (.cells #[.int .u8 1] TB)) S (some ⟨W.heap.size, 0, none⟩) 1 (fun _ => 1) := fun W S => pk_one W S 1
  have hpb1 : ∀ i : Nat, (fun _ : Nat => 1) i < 256 := fun _ => by show 1 < 256; decide
  have hpk2 : ∀ (W : World) (S : Nat → Prop), Pk (W.alloc (.cells #[.int .u8 2] TB)) S (some ⟨W.heap.size, 0, none⟩) 1 (fun _ => 2) := fun W S => pk_one W S 2
  have hpb2 : ∀ i : Nat, (fun _ : Nat => 2) i < 256 := fun _ => by show 2 < 256; decide
  go_enter Try.func14, Try.ntmps14
  go_upto_region 2 with (fail)
  have hb0 := heap_alloc_new w (.cells #[.int .u8 97, .int .u8 98, .int .u8 0] TB)
  have hB := (Below.refl w.heap.size w).alloc (Nat.le_refl _) (.cells #[.int .u8 97, .int .u8 98, .int .u8 0] TB)
  have hW : w.heap.size + 1 ≤ (w.alloc (.cells #[.int .u8 97, .int .u8 98, .int .u8 0] TB)).heap.size := by simp
  generalize w.alloc (.cells #[.int .u8 97, .int .u8 98, .int .u8 0] TB) = W at *
  have HB0 := Aside0.mk hb0; have HB1 := Aside0.mk hB; have HW := Aside0.mk hW
  clear hb0 hB hW
  go_loopw [16] (fun i wr => ∃ k : Nat, i = .int .i64 k ∧ Aside0 (k ≤ 3) ∧ Aside0 (Below w.heap.size w wr) ∧ Aside0 (wr.heap[w.heap.size]? = some (.cells #[.int .u8 97, .int .u8 98, .int .u8 0] TB (0, 0)))) (fun i _ => 3 - (intOf i).toNat)
  case atStart => exact ⟨0, rfl, ⟨by omega⟩, HB1, HB0⟩
  case round =>
    clear HB1 HB0 HW
    obtain ⟨k, rfl, K, HB, HB0⟩ := hrel
    have hl0 : wr.cell? ⟨w.heap.size, 0, none⟩ = some (.int .u8 97) := blk_cell HB0.out 0
    have hl1 : wr.cell? ⟨w.heap.size, 1, none⟩ = some (.int .u8 98) := blk_cell HB0.out 1
    have hl2 : wr.cell? ⟨w.heap.size, 2, none⟩ = some (.int .u8 0) := blk_cell HB0.out 2
    rcases (show k = 0 ∨ k = 1 ∨ k = 2 ∨ k = 3 by have := K.out; omega) with rfl | rfl | rfl | rfl
    · skip
      go_upto_region 5 with (go_at_call 13; (with_reducible refine (hnew _).mono ?_); rintro e w1 ⟨g, hge, rfl, hk1, hb1⟩; have HK := Aside0.mk hk1; have F := Aside0.mk (FS.of_below hb1); have HO := Aside0.mk (ok_new 2 (by decide)); have HGE := Aside0.mk hge; clear hk1 hb1 hge)
      have HS := Aside0.mk (show Top (fun k => wr.heap.size ≤ k) wr from fun _ h => h)
      go_upto_region 6 with (first | (go_at_call 16; (with_reducible refine (write_calls _ _ _ _ _ _ (HS.out.next F.out.size) HK.out HO.out.ok).mono ?_); rintro e w1 ⟨rfl, hk1, hf1⟩; have n1_ := Aside0.mk hk1; have n2_ := Aside0.mk (F.out.trans hf1); have n3_ := Aside0.mk (okOf hk1 (ok_write HO.out (by decide))); clear HK F HO hk1 hf1; have HK := n1_; have F := n2_; have HO := n3_; clear n1_ n2_ n3_) | (go_at_call 18; (with_reducible refine (sync_calls _ _ _ _ (HS.out.next F.out.size) HK.out HO.out.ok).mono ?_); rintro e w1 ⟨rfl, hk1, hf1⟩; have n1_ := Aside0.mk hk1; have n2_ := Aside0.mk (F.out.trans hf1); have n3_ := Aside0.mk (okOf hk1 (ok_sync HO.out)); clear HK F HO hk1 hf1; have HK := n1_; have F := n2_; have HO := n3_; clear n1_ n2_ n3_) | (go_at_call 17; (with_reducible refine (hfa _).mono ?_); rintro e w1 ⟨rfl, hb1⟩; have n1_ := Aside0.mk (HK.out.below hb1); have n2_ := Aside0.mk (F.out.below hb1); clear HK F hb1; have HK := n1_; have F := n2_; clear n1_ n2_) | (go_at_call 17; (with_reducible refine (hfb _).mono ?_); rintro e w1 ⟨rfl, hb1⟩; have n1_ := Aside0.mk (HK.out.below hb1); have n2_ := Aside0.mk (F.out.below hb1); clear HK F hb1; have HK := n1_; have F := n2_; clear n1_ n2_))
      have n1_ := Aside0.mk (HK.out.below ((Below.refl _ _).alloc (Nat.le_refl _) (.cells #[.int .u8 0] TB))); have n2_ := Aside0.mk (F.out.alloc (.cells #[.int .u8 0] TB)); clear HK F; have HK := n1_; have F := n2_; clear n1_ n2_
      go_upto_region 7 with (go_at_call 20; (with_reducible refine (crash_calls _ _ _ 1 _ (fun _ => 0) _ _ (HS.out.next F.out.size) HK.out HO.out.ok (hpk0 _ _) (hpb0)).mono ?_); rintro e w1 ⟨rfl, hk1, hf1⟩; have n1_ := Aside0.mk hk1; have n2_ := Aside0.mk (F.out.trans hf1); have n3_ := Aside0.mk (okOf hk1 (ok_crash HO.out)); clear HK F HO hk1 hf1; have HK := n1_; have F := n2_; have HO := n3_; clear n1_ n2_ n3_)
      go_upto_region 8 with (go_at_call 19; (with_reducible refine (read_calls _ _ _ _ _ HK.out HO.out.ok).mono ?_); rintro e w1 ⟨rfl, hb1⟩; have n1_ := Aside0.mk (HK.out.below hb1); have n2_ := Aside0.mk (F.out.below hb1); clear HK F hb1; have HK := n1_; have F := n2_; clear n1_ n2_)
      have E1 := aw_e1; have E2 := aw_e2; have E3 := aw_e3; have E4 : readE _ 0 = 0 := aw_e4 0 (by decide); have ES : readS _ 0 = _ := aw_s0
      unfold aw4 aw3 aw2 aw1 at E4 ES
      go_wp2_with (go_at_call 17; (with_reducible refine (hfa _).mono ?_); rintro e w1 ⟨rfl, hb1⟩; have n1_ := Aside0.mk (HK.out.below hb1); have n2_ := Aside0.mk (F.out.below hb1); clear HK F hb1; have HK := n1_; have F := n2_; clear n1_ n2_)
      go_roundw
      case measure => simp [intOf]
      case rel => exact ⟨1, rfl, ⟨by omega⟩, ⟨HB.out.trans ((FS.up F.out (Nat.le_refl _)).mono HB.out.size)⟩, ⟨((FS.up F.out (Nat.le_refl _)).block _ (blk_lt HB0.out)).trans HB0.out⟩⟩

    · skip
      go_upto_region 5 with (go_at_call 13; (with_reducible refine (hnew _).mono ?_); rintro e w1 ⟨g, hge, rfl, hk1, hb1⟩; have HK := Aside0.mk hk1; have F := Aside0.mk (FS.of_below hb1); have HO := Aside0.mk (ok_new 2 (by decide)); have HGE := Aside0.mk hge; clear hk1 hb1 hge)
      have HS := Aside0.mk (show Top (fun k => wr.heap.size ≤ k) wr from fun _ h => h)
      go_upto_region 6 with (first | (go_at_call 16; (with_reducible refine (write_calls _ _ _ _ _ _ (HS.out.next F.out.size) HK.out HO.out.ok).mono ?_); rintro e w1 ⟨rfl, hk1, hf1⟩; have n1_ := Aside0.mk hk1; have n2_ := Aside0.mk (F.out.trans hf1); have n3_ := Aside0.mk (okOf hk1 (ok_write HO.out (by decide))); clear HK F HO hk1 hf1; have HK := n1_; have F := n2_; have HO := n3_; clear n1_ n2_ n3_) | (go_at_call 18; (with_reducible refine (sync_calls _ _ _ _ (HS.out.next F.out.size) HK.out HO.out.ok).mono ?_); rintro e w1 ⟨rfl, hk1, hf1⟩; have n1_ := Aside0.mk hk1; have n2_ := Aside0.mk (F.out.trans hf1); have n3_ := Aside0.mk (okOf hk1 (ok_sync HO.out)); clear HK F HO hk1 hf1; have HK := n1_; have F := n2_; have HO := n3_; clear n1_ n2_ n3_) | (go_at_call 17; (with_reducible refine (hfa _).mono ?_); rintro e w1 ⟨rfl, hb1⟩; have n1_ := Aside0.mk (HK.out.below hb1); have n2_ := Aside0.mk (F.out.below hb1); clear HK F hb1; have HK := n1_; have F := n2_; clear n1_ n2_) | (go_at_call 17; (with_reducible refine (hfb _).mono ?_); rintro e w1 ⟨rfl, hb1⟩; have n1_ := Aside0.mk (HK.out.below hb1); have n2_ := Aside0.mk (F.out.below hb1); clear HK F hb1; have HK := n1_; have F := n2_; clear n1_ n2_))
      have n1_ := Aside0.mk (HK.out.below ((Below.refl _ _).alloc (Nat.le_refl _) (.cells #[.int .u8 1] TB))); have n2_ := Aside0.mk (F.out.alloc (.cells #[.int .u8 1] TB)); clear HK F; have HK := n1_; have F := n2_; clear n1_ n2_
      go_upto_region 7 with (go_at_call 20; (with_reducible refine (crash_calls _ _ _ 1 _ (fun _ => 1) _ _ (HS.out.next F.out.size) HK.out HO.out.ok (hpk1 _ _) (hpb1)).mono ?_); rintro e w1 ⟨rfl, hk1, hf1⟩; have n1_ := Aside0.mk hk1; have n2_ := Aside0.mk (F.out.trans hf1); have n3_ := Aside0.mk (okOf hk1 (ok_crash HO.out)); clear HK F HO hk1 hf1; have HK := n1_; have F := n2_; have HO := n3_; clear n1_ n2_ n3_)
      go_upto_region 8 with (go_at_call 19; (with_reducible refine (read_calls _ _ _ _ _ HK.out HO.out.ok).mono ?_); rintro e w1 ⟨rfl, hb1⟩; have n1_ := Aside0.mk (HK.out.below hb1); have n2_ := Aside0.mk (F.out.below hb1); clear HK F hb1; have HK := n1_; have F := n2_; clear n1_ n2_)
      have E1 := aw_e1; have E2 := aw_e2; have E3 := aw_e3; have E4 : readE _ 0 = 0 := aw_e4 1 (by decide); have ES : readS _ 0 = _ := aw_s1
      unfold aw4 aw3 aw2 aw1 at E4 ES
      go_wp2_with (go_at_call 17; (with_reducible refine (hfb _).mono ?_); rintro e w1 ⟨rfl, hb1⟩; have n1_ := Aside0.mk (HK.out.below hb1); have n2_ := Aside0.mk (F.out.below hb1); clear HK F hb1; have HK := n1_; have F := n2_; clear n1_ n2_)
      go_roundw
      case measure => simp [intOf]
      case rel => exact ⟨2, rfl, ⟨by omega⟩, ⟨HB.out.trans ((FS.up F.out (Nat.le_refl _)).mono HB.out.size)⟩, ⟨((FS.up F.out (Nat.le_refl _)).block _ (blk_lt HB0.out)).trans HB0.out⟩⟩

    · skip
      go_upto_region 5 with (go_at_call 13; (with_reducible refine (hnew _).mono ?_); rintro e w1 ⟨g, hge, rfl, hk1, hb1⟩; have HK := Aside0.mk hk1; have F := Aside0.mk (FS.of_below hb1); have HO := Aside0.mk (ok_new 2 (by decide)); have HGE := Aside0.mk hge; clear hk1 hb1 hge)
      have HS := Aside0.mk (show Top (fun k => wr.heap.size ≤ k) wr from fun _ h => h)
      go_upto_region 6 with (first | (go_at_call 16; (with_reducible refine (write_calls _ _ _ _ _ _ (HS.out.next F.out.size) HK.out HO.out.ok).mono ?_); rintro e w1 ⟨rfl, hk1, hf1⟩; have n1_ := Aside0.mk hk1; have n2_ := Aside0.mk (F.out.trans hf1); have n3_ := Aside0.mk (okOf hk1 (ok_write HO.out (by decide))); clear HK F HO hk1 hf1; have HK := n1_; have F := n2_; have HO := n3_; clear n1_ n2_ n3_) | (go_at_call 18; (with_reducible refine (sync_calls _ _ _ _ (HS.out.next F.out.size) HK.out HO.out.ok).mono ?_); rintro e w1 ⟨rfl, hk1, hf1⟩; have n1_ := Aside0.mk hk1; have n2_ := Aside0.mk (F.out.trans hf1); have n3_ := Aside0.mk (okOf hk1 (ok_sync HO.out)); clear HK F HO hk1 hf1; have HK := n1_; have F := n2_; have HO := n3_; clear n1_ n2_ n3_) | (go_at_call 17; (with_reducible refine (hfa _).mono ?_); rintro e w1 ⟨rfl, hb1⟩; have n1_ := Aside0.mk (HK.out.below hb1); have n2_ := Aside0.mk (F.out.below hb1); clear HK F hb1; have HK := n1_; have F := n2_; clear n1_ n2_) | (go_at_call 17; (with_reducible refine (hfb _).mono ?_); rintro e w1 ⟨rfl, hb1⟩; have n1_ := Aside0.mk (HK.out.below hb1); have n2_ := Aside0.mk (F.out.below hb1); clear HK F hb1; have HK := n1_; have F := n2_; clear n1_ n2_))
      have n1_ := Aside0.mk (HK.out.below ((Below.refl _ _).alloc (Nat.le_refl _) (.cells #[.int .u8 2] TB))); have n2_ := Aside0.mk (F.out.alloc (.cells #[.int .u8 2] TB)); clear HK F; have HK := n1_; have F := n2_; clear n1_ n2_
      go_upto_region 7 with (go_at_call 20; (with_reducible refine (crash_calls _ _ _ 1 _ (fun _ => 2) _ _ (HS.out.next F.out.size) HK.out HO.out.ok (hpk2 _ _) (hpb2)).mono ?_); rintro e w1 ⟨rfl, hk1, hf1⟩; have n1_ := Aside0.mk hk1; have n2_ := Aside0.mk (F.out.trans hf1); have n3_ := Aside0.mk (okOf hk1 (ok_crash HO.out)); clear HK F HO hk1 hf1; have HK := n1_; have F := n2_; have HO := n3_; clear n1_ n2_ n3_)
      go_upto_region 8 with (go_at_call 19; (with_reducible refine (read_calls _ _ _ _ _ HK.out HO.out.ok).mono ?_); rintro e w1 ⟨rfl, hb1⟩; have n1_ := Aside0.mk (HK.out.below hb1); have n2_ := Aside0.mk (F.out.below hb1); clear HK F hb1; have HK := n1_; have F := n2_; clear n1_ n2_)
      have E1 := aw_e1; have E2 := aw_e2; have E3 := aw_e3; have E4 : readE _ 0 = 0 := aw_e4 2 (by decide); have ES : readS _ 0 = _ := aw_s2
      unfold aw4 aw3 aw2 aw1 at E4 ES
      go_wp2_with (go_at_call 17; (with_reducible refine (hfz _).mono ?_); rintro e w1 ⟨rfl, hb1⟩; have n1_ := Aside0.mk (HK.out.below hb1); have n2_ := Aside0.mk (F.out.below hb1); clear HK F hb1; have HK := n1_; have F := n2_; clear n1_ n2_)
      go_roundw
      case measure => simp [intOf]
      case rel => exact ⟨3, rfl, ⟨by omega⟩, ⟨HB.out.trans ((FS.up F.out (Nat.le_refl _)).mono HB.out.size)⟩, ⟨((FS.up F.out (Nat.le_refl _)).block _ (blk_lt HB0.out)).trans HB0.out⟩⟩

    · clear hl0 hl1 hl2 HB0
      have hnf := hnew
      go_upto_region 12 with (go_at_call 13; (with_reducible refine (hnew _).mono ?_); rintro e w1 ⟨g, hge, rfl, hk1, hb1⟩; have HK := Aside0.mk hk1; have F := Aside0.mk (FS.of_below hb1); have HO := Aside0.mk (ok_new 2 (by decide)); have HGE := Aside0.mk hge; clear hk1 hb1 hge)
      have HS := Aside0.mk (show Top (fun k => wr.heap.size ≤ k) wr from fun _ h => h)
      go_upto_region 13 with (go_at_call 23; (with_reducible refine (arm_calls _ _ _ _ _ HK.out).mono ?_); rintro e w1 ⟨rfl, hk1, hf1⟩; have n1_ := Aside0.mk hk1; have n2_ := Aside0.mk (F.out.trans hf1); have n3_ := Aside0.mk (okOf hk1 (ok_arm HO.out _ (by omega))); clear HK F HO hk1 hf1; have HK := n1_; have F := n2_; have HO := n3_; clear n1_ n2_ n3_)
      have E6 := aw_e6; have E7 := aw_e7; have EG := aw_g; have EW := aw_w
      unfold aw7 aw6 aw5 at EG EW
      go_upto_region 14 with (first | (go_at_call 16; (with_reducible refine (write_calls _ _ _ _ _ _ (HS.out.next F.out.size) HK.out HO.out.ok).mono ?_); rintro e w1 ⟨rfl, hk1, hf1⟩; have n1_ := Aside0.mk hk1; have n2_ := Aside0.mk (F.out.trans hf1); have n3_ := Aside0.mk (okOf hk1 (ok_write HO.out (by decide))); clear HK F HO hk1 hf1; have HK := n1_; have F := n2_; have HO := n3_; clear n1_ n2_ n3_) | (go_at_call 17; (with_reducible refine (hfx _).mono ?_); rintro e w1 ⟨rfl, hb1⟩; have n1_ := Aside0.mk (HK.out.below hb1); have n2_ := Aside0.mk (F.out.below hb1); clear HK F hb1; have HK := n1_; have F := n2_; clear n1_ n2_) | (go_at_call 17; (with_reducible refine (hfy _).mono ?_); rintro e w1 ⟨rfl, hb1⟩; have n1_ := Aside0.mk (HK.out.below hb1); have n2_ := Aside0.mk (F.out.below hb1); clear HK F hb1; have HK := n1_; have F := n2_; clear n1_ n2_))
      go_wp2_with (first | (go_at_call 22; (with_reducible refine (dead_calls _ _ _ _ HK.out).mono ?_); rintro e w1 ⟨rfl, hb1⟩; have n1_ := Aside0.mk (HK.out.below hb1); have n2_ := Aside0.mk (F.out.below hb1); clear HK F hb1; have HK := n1_; have F := n2_; clear n1_ n2_) | (go_at_call 21; (with_reducible refine (waiting_calls _ _ _ _ HK.out).mono ?_); rintro e w1 ⟨rfl, hb1⟩; have n1_ := Aside0.mk (HK.out.below hb1); have n2_ := Aside0.mk (F.out.below hb1); clear HK F hb1; have HK := n1_; have F := n2_; clear n1_ n2_))
      go_ret
      exact ⟨rfl, HB.out.trans ((FS.up F.out (Nat.le_refl _)).mono HB.out.size)⟩
end Go.Proofs.Ytbdfdfahpdilpaa.Dk
