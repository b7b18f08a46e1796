import Derived.Test.YtbdfdfahpdilpaaX3x91
import Derived.Test.YtbdfdfahpdilpaaZB
import Derived.Test.YtbdfdfahpdilpaaZR
import Derived.Test.YtbdfdfahpdilpaaX3x94
import Derived.Deep.DeepCutAuto
import Derived.Deep.CutBlock
/-! Layer 3: laws. -/
namespace Go.Proofs.Ytbdfdfahpdilpaa.X3
open Go.Proofs.Ytbdfdfahpdilpaa.Rd Go.Proofs.Ytbdfdfahpdilpaa.Lv
open Go Go.RowKit Go.ChangeMaps Go.Proofs.Ytbdfdfahpdilpaa.Arr Go.Proofs.Ytbdfdfahpdilpaa.Mp Go.Proofs.Ytbdfdfahpdilpaa.Ow Go.Proofs.Ytbdfdfahpdilpaa.Dk Go.Proofs.YtbdfdfahpdilpaaW.PrintWords Go.Proofs.YtbdfdfahpdilpaaW.PrintLast Go.Proofs.YtbdfdfahpdilpaaW.PrintMore
set_option linter.unusedVariables false
set_option linter.unusedSimpArgs false
theorem okop4 {x : S31} (h : OkOp x) : ∀ y ∈ x.f4, 0 ≤ y ∧ y < 256 := h.2.2.2.2
theorem okop2 {x : S31} (h : OkOp x) : x.f2 < 9223372036854775808 := h.2.2.1.2
theorem olds_ge {c : Nat → Nat} {B g x : Nat} (h : Olds c B) (hc : c g = x) (hx : x ≠ 0) : B ≤ g := by
  rcases Nat.lt_or_ge g B with h1 | h1
  · exact absurd (hc.symm.trans (h g h1)) hx
  · exact h1
theorem okop1b {x : S31} (h : OkOp x) : -9223372036854775808 ≤ x.f1 ∧ x.f1 < 9223372036854775808 := h.2.1
set_option maxHeartbeats 40000000 in
set_option maxRecDepth 100000 in
theorem plays_walk (n0 : Int) (A0 : Option Addr) (c0 : Nat) (l : List S31) (w : World) (hr : Kd.C k31 w A0 l.length l) (ho : OkOps l) : Calls Try.prog 7 #[.int .i64 n0, .slice A0 l.length c0] w fun e w' => e = .returned (.bool true) ∧ Below w.heap.size w w' := by
  have hm := Kd.C_max hr
  have HR := Aside0.mk hr; clear hr
  have HOPS := Aside0.mk ho; clear ho
  by_cases hN : ¬ (1 ≤ n0 ∧ n0 ≤ 512)
  · have HN := Aside0.mk hN
    rcases Int.lt_or_le n0 1 with h1 | h1
    · have t1 : decide (1 ≤ n0) = false := decide_eq_false (by omega)
      clear hN h1
      go_enter Try.func7, Try.ntmps7
      go_wp2_with (first | (go_at_call 13; (with_reducible refine (new_none _ HN.out _).mono ?_); rintro e w1 ⟨rfl, hb1⟩; have F := Aside0.mk (FS.of_below hb1); clear hb1) | (go_at_call 14; (with_reducible refine (awake_calls _).mono ?_); rintro e w1 ⟨rfl, hb1⟩; have F_n := Aside0.mk (F.out.below hb1); clear F; have F := F_n; clear F_n; clear hb1))
      go_ret
      exact ⟨rfl, FS.up F.out (Nat.le_refl _)⟩
    · have t1 : decide (1 ≤ n0) = true := decide_eq_true (by omega)
      have t2 : decide (n0 ≤ 512) = false := decide_eq_false (by omega)
      clear hN h1
      go_enter Try.func7, Try.ntmps7
      go_wp2_with (first | (go_at_call 13; (with_reducible refine (new_none _ HN.out _).mono ?_); rintro e w1 ⟨rfl, hb1⟩; have F := Aside0.mk (FS.of_below hb1); clear hb1) | (go_at_call 14; (with_reducible refine (awake_calls _).mono ?_); rintro e w1 ⟨rfl, hb1⟩; have F_n := Aside0.mk (F.out.below hb1); clear F; have F := F_n; clear F_n; clear hb1))
      go_ret
      exact ⟨rfl, FS.up F.out (Nat.le_refl _)⟩
  obtain ⟨n, rfl⟩ : ∃ n : Nat, n0 = (n : Int) := ⟨n0.toNat, by omega⟩
  have HN1 := Aside0.mk (show 1 ≤ n by omega); have HN2 := Aside0.mk (show n ≤ 512 by omega)
  have t1 : decide (1 ≤ (n : Int)) = true := decide_eq_true (by omega)
  have t2 : decide ((n : Int) ≤ 512) = true := decide_eq_true (by omega)
  clear hN
  go_enter Try.func7, Try.ntmps7
  go_upto_region 4 with (first | (go_at_call 13; (with_reducible refine (new_calls n HN1.out HN2.out _).mono ?_); rintro e w1 ⟨ga, hge, rfl, hk1, hb1⟩; have HKa := Aside0.mk (hk1.fresh (fun _ => 0) 1); have C := Aside0.mk (olds_paint0 w.heap.size w.heap.size 1 (Nat.le_refl _)); have F := Aside0.mk (FS.of_below hb1); clear hk1 hb1 hge) | (go_at_call 14; (with_reducible refine (awake_calls _).mono ?_); rintro e w1 ⟨rfl, hb1⟩; have HKa_n := Aside0.mk (HKa.out.below hb1); have F_n := Aside0.mk (F.out.below hb1); clear HKa F; have HKa := HKa_n; have F := F_n; clear HKa_n F_n; clear hb1))
  cases hlg : longF l with
  | true =>
    go_wp2_with (first | (go_at_call 15; (with_reducible refine (long_calls _ _ _ _ (Kd.C_below HR.out (FS.up F.out (Nat.le_refl _)))).mono ?_); rintro e w1 ⟨rfl, hb1⟩; have HKa_n := Aside0.mk (HKa.out.below hb1); have F_n := Aside0.mk (F.out.below hb1); clear HKa F; have HKa := HKa_n; have F := F_n; clear HKa_n F_n; clear hb1))
    go_ret
    exact ⟨rfl, FS.up F.out (Nat.le_refl _)⟩
  | false =>
  by_cases h40 : (40 : Int) < (n : Int)
  · have t3 : decide ((40 : Int) < (n : Int)) = true := decide_eq_true h40
    have t3' : decide (40 < n) = true := decide_eq_true (by omega)
    clear h40
    go_wp2_with (first | (go_at_call 15; (with_reducible refine (long_calls _ _ _ _ (Kd.C_below HR.out (FS.up F.out (Nat.le_refl _)))).mono ?_); rintro e w1 ⟨rfl, hb1⟩; have HKa_n := Aside0.mk (HKa.out.below hb1); have F_n := Aside0.mk (F.out.below hb1); clear HKa F; have HKa := HKa_n; have F := F_n; clear HKa_n F_n; clear hb1))
    go_ret
    exact ⟨rfl, FS.up F.out (Nat.le_refl _)⟩
  have HN4 := Aside0.mk (show n ≤ 40 by omega)
  have h300 := Aside0.mk (show l.length ≤ 300 from by
    have := hlg
    unfold longF at *
    simp only [Bool.or_eq_false_iff, decide_eq_false_iff_not] at *
    omega)
  have HLG := Aside0.mk (show ∀ x ∈ l, x.f4.length ≤ 200 from fun x hx => by
    have h1 := hlg
    unfold longF at h1
    simp only [Bool.or_eq_false_iff, List.any_eq_false, decide_eq_true_eq] at h1
    have := h1.1 x hx
    omega)
  go_upto_region 6 with (first | (go_at_call 15; (with_reducible refine (long_calls _ _ _ _ (Kd.C_below HR.out (FS.up F.out (Nat.le_refl _)))).mono ?_); rintro e w1 ⟨rfl, hb1⟩; have HKa_n := Aside0.mk (HKa.out.below hb1); have F_n := Aside0.mk (F.out.below hb1); clear HKa F; have HKa := HKa_n; have F := F_n; clear HKa_n F_n; clear hb1))
  clear hlg h40 t1 t2
  go_upto_region 8 with (first | (go_at_call 25; (with_reducible refine (rnew_calls n (by have := HN4.out; omega) _).mono ?_); rintro e w1 ⟨gr, hge, rfl, hk1, hb1⟩; have HKr := Aside0.mk (hk1.fresh (Dk.paint (fun _ => 0) w.heap.size 1) 2); have HKa_n := Aside0.mk ((HKa.out.paint 2).below hb1); have C_n := Aside0.mk (C.out.paint 2 F.out.size); have F_n := Aside0.mk (F.out.below hb1); clear HKa C F; have HKa := HKa_n; have C := C_n; have F := F_n; clear HKa_n C_n F_n; clear hk1 hb1 hge))
  generalize Dk.paint (Dk.paint (fun _ => 0) w.heap.size 1) _ 2 = cl at *
  go_loopw [5, 56] (fun pv v wr => ∃ (k : Nat) (ga : Nat) (d : DS) (cl : Nat → Nat), v = .int .i64 k ∧ pv = .pointer (some ⟨ga, 0, none⟩) ∧ Aside0 (k ≤ l.length) ∧ Aside0 (DK wr (Col cl 1) ga d) ∧ Aside0 (RK wr (Col cl 2) gr d) ∧ Aside0 (Olds cl w.heap.size) ∧ Aside0 (FS (fun x => w.heap.size ≤ x) w wr) ∧ Aside0 (OkN k d) ∧ Aside0 (d.safe.length = n)) (fun _ v _ => l.length - (intOf v).toNat)
  case atStart => exact ⟨0, ga, newD n, cl, rfl, rfl, ⟨by omega⟩, HKa, HKr, C, F, ⟨ok_new n HN2.out⟩, ⟨by simp [newD]⟩⟩
  case round =>
    clear HKa HKr F C
    obtain ⟨k, ga, d, cl, rfl, rfl, K, HKa, HKr, C, F, HOa, HLN⟩ := hrel
    by_cases hlt : k < l.length
    · have h1 : (k : Int) < (l.length : Int) := by omega
      have hwk : wrap64 ((k : Int) + 1) = ((k + 1 : Nat) : Int) := by have := h300.out; unfold wrap64; omega
      have HLT := Aside0.mk hlt
      obtain ⟨ad, A4, c4, rfl, q0, q1, q2, q3, q4, hl4, hC4⟩ := at_T31 HR.out (k : Int) (by omega) h1
      rw [Int.toNat_natCast] at q0 q1 q2 q3 q4
      have HOP := Aside0.mk (HOPS.out _ (rd_mem hlt)); have HL4 := Aside0.mk (HLG.out _ (rd_mem hlt))
      clear hl4 hlt
      generalize rd_T31 l (k : Nat) = o_ at *
      have HC4 := Aside0.mk hC4; have HB := Aside0.mk (FS.up F.out (Nat.le_refl _)); clear hC4
      replace q0 := pw_cell_below HB.out q0; replace q1 := pw_cell_below HB.out q1; replace q2 := pw_cell_below HB.out q2; replace q3 := pw_cell_below HB.out q3; replace q4 := pw_cell_below HB.out q4
      have HKL := Aside0.mk (show k < 300 by have := HLT.out; have := h300.out; omega)
      go_upto_region 10 with (fail)
      have HTA := Aside0.mk (And.intro (heap_alloc_new wr (.cells #[.int .i64 o_.f0, .int .i64 o_.f1, .int .i64 o_.f2, .int .u8 o_.f3, .slice A4 o_.f4.length c4] 31)) (paint_new (c := cl) (x := 3) (Nat.le_refl wr.heap.size)))
      have hb1 := (Below.refl wr.heap.size wr).alloc (Nat.le_refl _) (.cells #[.int .i64 o_.f0, .int .i64 o_.f1, .int .i64 o_.f2, .int .u8 o_.f3, .slice A4 o_.f4.length c4] 31)
      have HKa_n := Aside0.mk ((HKa.out.paint 3).below hb1); have HKr_n := Aside0.mk ((HKr.out.paint 3).below hb1); have F_n := Aside0.mk (F.out.below hb1); have C_n := Aside0.mk (C.out.paint 3 F.out.size)
      clear HKa HKr F C HB q0 q1 q2 q3 q4 hb1
      have HKa := HKa_n; have HKr := HKr_n; have F := F_n; have C := C_n
      clear HKa_n HKr_n F_n C_n
      generalize wr.alloc (.cells #[.int .i64 o_.f0, .int .i64 o_.f1, .int .i64 o_.f2, .int .u8 o_.f3, .slice A4 o_.f4.length c4] 31) = W at *
      generalize Dk.paint cl wr.heap.size 3 = cl at *
      generalize wr.heap.size = ob at *
      have q1 : W.cell? ⟨ob, 1, none⟩ = some (.int .i64 o_.f1) := blk_cell HTA.out.1 1
      have q2 : W.cell? ⟨ob, 2, none⟩ = some (.int .i64 o_.f2) := blk_cell HTA.out.1 2
      have q3 : W.cell? ⟨ob, 3, none⟩ = some (.int .u8 o_.f3) := blk_cell HTA.out.1 3
      have q4 : W.cell? ⟨ob, 4, none⟩ = some (.slice A4 o_.f4.length c4) := blk_cell HTA.out.1 4
      go_upto_if 65 with (first | (go_at_call 17; (with_reducible refine (full_int _ (okop0 HOP.out) (okop1 HOP.out) _).mono ?_); rintro e w1 ⟨rfl, hb1⟩; have HKa_n := Aside0.mk (HKa.out.below hb1); have HKr_n := Aside0.mk (HKr.out.below hb1); have F_n := Aside0.mk (F.out.below hb1); have HTA_n := Aside0.mk (And.intro (blk_below HTA.out.1 hb1) HTA.out.2); clear HKa HKr F HTA; have HKa := HKa_n; have HKr := HKr_n; have F := F_n; have HTA := HTA_n; clear HKa_n HKr_n F_n HTA_n; clear hb1; clear q1 q2 q3 q4; have q1 : w1.cell? ⟨ob, 1, none⟩ = some (.int .i64 o_.f1) := blk_cell HTA.out.1 1; have q2 : w1.cell? ⟨ob, 2, none⟩ = some (.int .i64 o_.f2) := blk_cell HTA.out.1 2; have q3 : w1.cell? ⟨ob, 3, none⟩ = some (.int .u8 o_.f3) := blk_cell HTA.out.1 3; have q4 : w1.cell? ⟨ob, 4, none⟩ = some (.slice A4 o_.f4.length c4) := blk_cell HTA.out.1 4))
      go_cut [10] (fun s10 wx => ∃ s : ByteArray, s10 = .string s ∧ wx = w1)
      case first =>
        by_cases h255 : o_.f3 = 255
        · have t5 : (o_.f3 == 255) = true := by simp [h255]
          clear h255
          go_wp2_with (fail)
          go_meet
          exact ⟨_, rfl, rfl⟩
        · have t5 : (o_.f3 == 255) = false := by simp [h255]
          clear h255
          go_wp2_with (fail)
          go_meet
          exact ⟨_, rfl, rfl⟩
      case rest =>
      obtain ⟨s, rfl, rfl⟩ := hcut
      have q0 : wc.cell? ⟨ob, 0, none⟩ = some (.int .i64 o_.f0) := blk_cell HTA.out.1 0
      go_upto_block 2 with fail
      go_cut [5] (fun s5 wx => ∃ (ga' : Nat) (d' : DS) (cl' : Nat → Nat), s5 = .pointer (some ⟨ga', 0, none⟩) ∧ Aside0 (DK wx (Col cl' 1) ga' d') ∧ Aside0 (RK wx (Col cl' 2) gr d') ∧ Aside0 (Olds cl' w.heap.size) ∧ Aside0 (FS (fun x => w.heap.size ≤ x) w wx) ∧ Aside0 (OkN (k + 1) d') ∧ Aside0 (d'.safe.length = n))
      case first =>
        clear q0
        by_cases e1 : o_.f0 = 1
        · have t11 : (o_.f0 == 1) = true := by simp [e1]
          clear e1
          go_upto_region 19 with (fail)
          have HKa2 := Aside0.mk HKa.out.drew; have HKr2 := Aside0.mk HKr.out.drew; have F2 := Aside0.mk F.out.drew; have HTA2 := Aside0.mk (show wc.drew.heap[ob]? = some (.cells #[.int .i64 o_.f0, .int .i64 o_.f1, .int .i64 o_.f2, .int .u8 o_.f3, .slice A4 o_.f4.length c4] 31) ∧ cl ob = 3 from HTA.out)
          have z1 : wc.drew.cell? ⟨ob, 1, none⟩ = some (.int .i64 o_.f1) := blk_cell (w := wc.drew) HTA2.out.1 1
          clear HKa HKr F HTA q1 q2 q3 q4
          refine start_ (n := 11) (S := fun w' => w'.cell? ⟨ob, 1, none⟩ = some (.int .i64 o_.f1)) (ds := [9]) #[false, false, false, false, false, false, false, false, false, false, false] (by kernel_rfl) rfl rfl z1 (fun hHeld => ?_)
          refine pure_ (i := 0) (N := some 78) (v := ?_) (a' := ?_) #[true, false, false, false, false, false, false, false, false, false, false] rfl rfl (by kernel_rfl) (fun _ _ _ h => h) (Or.inl ⟨by kernel_rfl, ?_⟩) ?_ ?_
          rotate_left
          · intro w'
            go_simp
            with_reducible rfl
          rotate_left
          · simp only [Act.put, List.setIfInBounds_toArray, List.set_cons_zero, List.set_cons_succ, i64_w, i32_w]
            rfl
          refine pure_ (i := 1) (N := some 79) (v := ?_) (a' := ?_) #[true, true, false, false, false, false, false, false, false, false, false] rfl rfl (by kernel_rfl) (fun _ _ _ h => h) (Or.inl ⟨by kernel_rfl, ?_⟩) ?_ ?_
          rotate_left
          · intro w'
            go_simp
            with_reducible rfl
          rotate_left
          · simp only [Act.put, List.setIfInBounds_toArray, List.set_cons_zero, List.set_cons_succ, i64_w, i32_w]
            rfl
          refine pure_ (i := 3) (N := some 81) (v := ?_) (a' := ?_) #[true, true, false, true, false, false, false, false, false, false, false] rfl rfl (by kernel_rfl) (fun _ _ _ h => h) (Or.inl ⟨by kernel_rfl, ?_⟩) ?_ ?_
          rotate_left
          · intro w'
            go_simp
            with_reducible rfl
          rotate_left
          · simp only [Act.put, List.setIfInBounds_toArray, List.set_cons_zero, List.set_cons_succ, i64_w, i32_w]
            rfl
          refine pure_ (i := 5) (N := some 83) (v := ?_) (a' := ?_) #[true, true, false, true, false, true, false, false, false, false, false] rfl rfl (by kernel_rfl) (fun _ _ _ h => h) (Or.inl ⟨by kernel_rfl, ?_⟩) ?_ ?_
          rotate_left
          · intro w'
            go_simp
            with_reducible rfl
          rotate_left
          · simp only [Act.put, List.setIfInBounds_toArray, List.set_cons_zero, List.set_cons_succ, i64_w, i32_w]
            rfl
          refine pure_ (i := 6) (N := some 84) (v := ?_) (a' := ?_) #[true, true, false, true, false, true, true, false, false, false, false] rfl rfl (by kernel_rfl) (fun _ _ _ h => h) (Or.inl ⟨by kernel_rfl, ?_⟩) ?_ ?_
          rotate_left
          · intro w'
            go_simp
            with_reducible rfl
          rotate_left
          · simp only [Act.put, List.setIfInBounds_toArray, List.set_cons_zero, List.set_cons_succ, i64_w, i32_w]
            rfl
          refine pure_ (i := 8) (N := some 86) (v := ?_) (a' := ?_) #[true, true, false, true, false, true, true, false, true, false, false] rfl rfl (by kernel_rfl) (fun _ _ _ h => h) (Or.inl ⟨by kernel_rfl, ?_⟩) ?_ ?_
          rotate_left
          · intro w'
            go_simp
            with_reducible rfl
          rotate_left
          · simp only [Act.put, List.setIfInBounds_toArray, List.set_cons_zero, List.set_cons_succ, i64_w, i32_w]
            rfl
          refine take_ (i := 2) (N := some 80) (v := ?_) (a' := ?_) #[true, true, true, true, false, true, true, false, true, false, false] rfl rfl (by kernel_rfl) (fun _ _ _ h => h) (Or.inl ⟨by kernel_rfl, ?_⟩) hHeld ?_ ?_
          rotate_left
          · rintro w' s0_
            go_simp
            with_reducible rfl
          rotate_left
          · simp only [Act.put, List.setIfInBounds_toArray, List.set_cons_zero, List.set_cons_succ, i64_w, i32_w]
            rfl
          refine take_ (i := 7) (N := some 85) (v := ?_) (a' := ?_) #[true, true, true, true, false, true, true, true, true, false, false] rfl rfl (by kernel_rfl) (fun _ _ _ h => h) (Or.inl ⟨by kernel_rfl, ?_⟩) hHeld ?_ ?_
          rotate_left
          · rintro w' s0_
            go_simp
            with_reducible rfl
          rotate_left
          · simp only [Act.put, List.setIfInBounds_toArray, List.set_cons_zero, List.set_cons_succ, i64_w, i32_w]
            rfl
          refine one_ (i := 4) (N := some 82) #[true, true, true, true, true, true, true, true, true, false, false] rfl rfl (by kernel_rfl) (by decide) (fun K hK => ?_)
          refine goes_ Try.func16 (by kernel_rfl) rfl #[.pointer (some ⟨ga, 0, none⟩), .int .i64 o_.f1, .string s] (by rfl) rfl rfl (by (try simp only [List.map_toArray, List.map_cons, List.map_nil]); first | done | rfl) ?_
          refine (write_calls _ _ _ _ _ _ (top_paint _ _ 1) (HKa2.out.paint 1) HOa.out.ok).mono ?_
          rintro e v1_ ⟨rfl, hk1, hf1⟩
          refine ⟨_, rfl, ?_⟩
          have HKa3 := Aside0.mk hk1; have HKr3 := Aside0.mk (HKr2.out.apart hf1 (by decide)); have F3 := Aside0.mk (F2.out.trans (FS.base hf1 C.out (by decide))); have C3 := Aside0.mk (C.out.paint 1 F2.out.size); have HTA3 := Aside0.mk (blk_apart HTA2.out.1 HTA2.out.2 hf1 (by decide))
          refine hK _ _ (blk_cell (w := v1_) HTA3.out.1 1) (fun hHeld => ?_)
          clear hK K hk1 hf1 HKa2 HKr2 F2 C HTA2
          refine norm_ (a' := ?_) ?_ ?_
          rotate_left
          · show Act.put _ (some 82) _ = _
            simp only [Act.put, List.setIfInBounds_toArray, List.set_cons_zero, List.set_cons_succ, i64_w, i32_w]
            rfl
          refine last_ (i := 9) (N := some 87) #[true, true, true, true, true, true, true, true, true, true, false] rfl rfl (by kernel_rfl) (by decide) (fun K hK => ?_)
          refine goes_ Try.func26 (by kernel_rfl) rfl #[.pointer (some ⟨gr, 0, none⟩), .int .i64 o_.f1, .string s] (by rfl) rfl rfl (by (try simp only [List.map_toArray, List.map_cons, List.map_nil]); first | done | rfl) ?_
          refine (rwrite_calls _ _ _ _ _ _ (top_paint _ _ 2) (HKr3.out.paint 2) HOa.out.ok).mono ?_
          rintro e v2_ ⟨rfl, hk1, hf1⟩
          refine ⟨_, rfl, ?_⟩
          have HKr := Aside0.mk hk1; have HKa := Aside0.mk (HKa3.out.apart hf1 (by decide)); have F := Aside0.mk (F3.out.trans (FS.base hf1 C3.out (by decide))); have C := Aside0.mk (C3.out.paint 2 F3.out.size)
          refine hK _ _ ?_
          clear hK K hk1 hf1 HKa3 HKr3 F3 C3 HTA3
          refine norm_ (a' := ?_) ?_ ?_
          rotate_left
          · show Act.put _ (some 87) _ = _
            simp only [Act.put, List.setIfInBounds_toArray, List.set_cons_zero, List.set_cons_succ, i64_w, i32_w]
            rfl
          refine pure_ (i := 10) (N := some 88) (v := ?_) (a' := ?_) #[true, true, true, true, true, true, true, true, true, true, true] rfl rfl (by kernel_rfl) (fun _ _ _ h => h) (Or.inl ⟨by kernel_rfl, ?_⟩) ?_ ?_
          rotate_left
          · intro w'
            go_simp
            with_reducible rfl
          rotate_left
          · simp only [Act.put, List.setIfInBounds_toArray, List.set_cons_zero, List.set_cons_succ, i64_w, i32_w]
            rfl
          refine done_ (by kernel_rfl) ?_
          simp only [Exit.inBlock, Exit.then]
          go_wp2_with (fail)
          go_meet
          exact ⟨_, _, _, rfl, HKa, HKr, C, F, ⟨ok_write HOa.out (by have := HKL.out; omega)⟩, ⟨(len_write _ _ _).trans HLN.out⟩⟩
        have t11 : (o_.f0 == 1) = false := by simp [e1]
        clear e1
        by_cases e2 : o_.f0 = 2
        · have t22 : (o_.f0 == 2) = true := by simp [e2]
          clear e2
          go_wp2_with (first | (go_at_call 18; (with_reducible refine (sync_calls _ _ _ _ (top_paint _ _ 1) (HKa.out.paint 1) HOa.out.ok).mono ?_); rintro e w1 ⟨rfl, hk1, hf1⟩; have HKa_n := Aside0.mk (hk1); have HKr_n := Aside0.mk (HKr.out.apart hf1 (by decide)); have HTA_n := Aside0.mk (blk_apart HTA.out.1 HTA.out.2 hf1 (by decide)); have F_n := Aside0.mk (F.out.trans (FS.base hf1 C.out (by decide))); have C_n := Aside0.mk (C.out.paint 1 F.out.size); clear HKa HKr HTA F C; have HKa := HKa_n; have HKr := HKr_n; have HTA := HTA_n; have F := F_n; have C := C_n; clear HKa_n HKr_n HTA_n F_n C_n; clear hk1 hf1) | (go_at_call 27; (with_reducible refine (rsync_calls _ _ _ _ (HKr.out.paint 2) HOa.out.ok).mono ?_); rintro e w1 ⟨rfl, hk1, hf1⟩; have HKr_n := Aside0.mk (hk1); have HKa_n := Aside0.mk (HKa.out.apart hf1 (by decide)); have HTA_n := Aside0.mk (blk_apart HTA.out.1 HTA.out.2 hf1 (by decide)); have F_n := Aside0.mk (F.out.trans (FS.base hf1 C.out (by decide))); have C_n := Aside0.mk (C.out.paint 2 F.out.size); clear HKr HKa HTA F C; have HKr := HKr_n; have HKa := HKa_n; have HTA := HTA_n; have F := F_n; have C := C_n; clear HKr_n HKa_n HTA_n F_n C_n; clear hk1 hf1))
          go_meet
          exact ⟨_, _, _, rfl, HKa, HKr, C, F, ⟨(ok_sync HOa.out).mono (by omega)⟩, ⟨(len_sync _).trans HLN.out⟩⟩
        have t22 : (o_.f0 == 2) = false := by simp [e2]
        clear e2
        by_cases e3 : o_.f0 = 3
        · have t33 : (o_.f0 == 3) = true := by simp [e3]
          clear e3
          go_upto_region 26 with (first | (go_at_call 23; (with_reducible refine (arm_calls _ _ _ _ _ (HKa.out.paint 1)).mono ?_); rintro e w1 ⟨rfl, hk1, hf1⟩; have HKa_n := Aside0.mk (hk1); have HKr_n := Aside0.mk (HKr.out.apart hf1 (by decide)); have HTA_n := Aside0.mk (blk_apart HTA.out.1 HTA.out.2 hf1 (by decide)); have F_n := Aside0.mk (F.out.trans (FS.base hf1 C.out (by decide))); have C_n := Aside0.mk (C.out.paint 1 F.out.size); clear HKa HKr HTA F C; have HKa := HKa_n; have HKr := HKr_n; have HTA := HTA_n; have F := F_n; have C := C_n; clear HKa_n HKr_n HTA_n F_n C_n; clear hk1 hf1; clear q1 q2 q3 q4; have q1 : w1.cell? ⟨ob, 1, none⟩ = some (.int .i64 o_.f1) := blk_cell HTA.out.1 1; have q2 : w1.cell? ⟨ob, 2, none⟩ = some (.int .i64 o_.f2) := blk_cell HTA.out.1 2; have q3 : w1.cell? ⟨ob, 3, none⟩ = some (.int .u8 o_.f3) := blk_cell HTA.out.1 3; have q4 : w1.cell? ⟨ob, 4, none⟩ = some (.slice A4 o_.f4.length c4) := blk_cell HTA.out.1 4))
          obtain ⟨svr, rvr, hvr⟩ := HKr.out
          have HVR := Aside0.mk hvr; clear hvr
          have g3 : w1.cell? ⟨gr, 3, none⟩ = some (.int .i64 d.fuse) := HVR.out.cells.1.2.2.2
          have gf : w1.frozen? ⟨gr, 3, none⟩ = false := HVR.out.cells.2 3
          go_wp2_with (fail)
          go_meet
          exact ⟨_, _, _, rfl, ⟨HKa.out.stored HVR.out.sg (by decide) 3 _⟩, ⟨_, _, HVR.out.set_fuse (max o_.f2 (-1))⟩, C, ⟨F.out.setCell (p := ⟨gr, 3, none⟩) (.inl (olds_ge C.out HVR.out.sg (by decide))) _⟩, ⟨(ok_arm HOa.out _ (okop2 HOP.out)).mono (by omega)⟩, HLN⟩
        have t33 : (o_.f0 == 3) = false := by simp [e3]
        clear e3
        by_cases e4 : o_.f0 = 4
        · have t44 : (o_.f0 == 4) = true := by simp [e4]
          clear e4
          go_upto_region 28 with (fail)
          have hA0 := (Below.refl wc.heap.size wc).alloc (Nat.le_refl _) (.cells #[] TB)
          have hpk0 := pk_in (W := wc.alloc (.cells #[] TB)) HC4.out (okop4 HOP.out) (FS.up (F.out.alloc (.cells #[] TB)) (Nat.le_refl _)) C.out Nat.one_ne_zero
          obtain ⟨A', c', W4, hrun, hbW, hpk⟩ := app_picks (wc.alloc (.cells #[] TB)) wc.heap.size A4 o_.f4.length c4 (fun j => (o_.f4.getD j 0).toNat) (by have := HL4.out; omega) (fun hn => by obtain ⟨ad', e', hc', -⟩ := hpk0 hn; exact ⟨ad', e', hc'⟩) 23
          have hb1 := Arr.below_trans hA0 hbW
          have q4' : (wc.alloc (.cells #[] TB)).cell? ⟨ob, 4, none⟩ = some (.slice A4 o_.f4.length c4) := pw_cell_below hA0 q4
          have HKa_n := Aside0.mk (HKa.out.below hb1); have HKr_n := Aside0.mk (HKr.out.below hb1); have F_n := Aside0.mk (F.out.below hb1); have HTA_n := Aside0.mk (And.intro (blk_below HTA.out.1 hb1) HTA.out.2); clear HKa HKr F HTA; have HKa := HKa_n; have HKr := HKr_n; have F := F_n; have HTA := HTA_n; clear HKa_n HKr_n F_n HTA_n; clear hb1
          have HPA : Aside0 (Pk W4 (Col (Dk.paint cl W4.heap.size 1) 1) A' o_.f4.length (fun j => (o_.f4.getD j 0).toNat)) := ⟨fun hn => by obtain ⟨ad', e', hc', hb'⟩ := hpk hn; exact ⟨ad', e', hc', .inr hb'⟩⟩
          have HPB : Aside0 (∀ i, (fun j => (o_.f4.getD j 0).toNat) i < 256) := ⟨pk_lt (okop4 HOP.out)⟩
          have HRN := Aside0.mk hrun
          clear hA0 hpk0 hrun hbW hpk
          go_upto_region 29 with (first | ((with_reducible refine gate_builtin (b := .append) (xs := #[.tmp 111, .tmp 113]) rfl ?_); at_builtin; refine ev_append (.tmp 111) (.tmp 113) 23 rfl rfl _ _ rfl rfl HRN.out ?_) | (go_at_call 20; (with_reducible refine (crash_calls _ _ _ _ _ (fun j => (o_.f4.getD j 0).toNat) _ _ (top_paint _ _ 1) (HKa.out.paint 1) HOa.out.ok HPA.out HPB.out).mono ?_); rintro e w1 ⟨rfl, hk1, hf1⟩; have HKa_n := Aside0.mk (hk1); have HKr_n := Aside0.mk (HKr.out.apart hf1 (by decide)); have HTA_n := Aside0.mk (blk_apart HTA.out.1 HTA.out.2 hf1 (by decide)); have F_n := Aside0.mk (F.out.trans (FS.base hf1 C.out (by decide))); have C_n := Aside0.mk (C.out.paint 1 F.out.size); clear HKa HKr HTA F C; have HKa := HKa_n; have HKr := HKr_n; have HTA := HTA_n; have F := F_n; have C := C_n; clear HKa_n HKr_n HTA_n F_n C_n; clear hk1 hf1; clear q1 q2 q3 q4; have q1 : w1.cell? ⟨ob, 1, none⟩ = some (.int .i64 o_.f1) := blk_cell HTA.out.1 1; have q2 : w1.cell? ⟨ob, 2, none⟩ = some (.int .i64 o_.f2) := blk_cell HTA.out.1 2; have q3 : w1.cell? ⟨ob, 3, none⟩ = some (.int .u8 o_.f3) := blk_cell HTA.out.1 3; have q4 : w1.cell? ⟨ob, 4, none⟩ = some (.slice A4 o_.f4.length c4) := blk_cell HTA.out.1 4))
          go_wp2_with (first | (go_at_call 28; (with_reducible refine (rcrash_calls _ _ _ _ _ (fun j => (o_.f4.getD j 0).toNat) _ _ (HKr.out.paint 2) HOa.out.ok (pk_in HC4.out (okop4 HOP.out) (FS.up F.out (Nat.le_refl _)) (C.out.paint 2 F.out.size) (show (2 : Nat) ≠ 0 from Nat.succ_ne_zero 1)) HPB.out).mono ?_); rintro e w1 ⟨rfl, hk1, hf1⟩; have HKr_n := Aside0.mk (hk1); have HKa_n := Aside0.mk (HKa.out.apart hf1 (by decide)); have F_n := Aside0.mk (F.out.trans (FS.base hf1 C.out (by decide))); have C_n := Aside0.mk (C.out.paint 2 F.out.size); clear HKr HKa F C; have HKr := HKr_n; have HKa := HKa_n; have F := F_n; have C := C_n; clear HKr_n HKa_n F_n C_n; clear hk1 hf1))
          go_meet
          exact ⟨_, _, _, rfl, HKa, HKr, C, F, ⟨(ok_crash HOa.out).mono (by omega)⟩, ⟨(len_crash _ _ _).trans HLN.out⟩⟩
        have t44 : (o_.f0 == 4) = false := by simp [e4]
        clear e4
        by_cases e5 : o_.f0 = 5
        · have t55 : (o_.f0 == 5) = true := by simp [e5]
          clear e5
          go_upto_region 31 with (fail)
          have HKa2 := Aside0.mk HKa.out.drew; have HKr2 := Aside0.mk HKr.out.drew; have F2 := Aside0.mk F.out.drew; have HTA2 := Aside0.mk (show wc.drew.heap[ob]? = some (.cells #[.int .i64 o_.f0, .int .i64 o_.f1, .int .i64 o_.f2, .int .u8 o_.f3, .slice A4 o_.f4.length c4] 31) ∧ cl ob = 3 from HTA.out)
          have z1 : wc.drew.cell? ⟨ob, 1, none⟩ = some (.int .i64 o_.f1) := blk_cell (w := wc.drew) HTA2.out.1 1
          clear HKa HKr F HTA q1 q2 q3 q4
          refine start_ (n := 9) (S := fun w' => w'.cell? ⟨ob, 1, none⟩ = some (.int .i64 o_.f1)) (ds := [7]) #[false, false, false, false, false, false, false, false, false] (by kernel_rfl) rfl rfl z1 (fun hHeld => ?_)
          refine pure_ (i := 0) (N := some 122) (v := ?_) (a' := ?_) #[true, false, false, false, false, false, false, false, false] rfl rfl (by kernel_rfl) (fun _ _ _ h => h) (Or.inl ⟨by kernel_rfl, ?_⟩) ?_ ?_
          rotate_left
          · intro w'
            go_simp
            with_reducible rfl
          rotate_left
          · simp only [Act.put, List.setIfInBounds_toArray, List.set_cons_zero, List.set_cons_succ, i64_w, i32_w]
            rfl
          refine pure_ (i := 1) (N := some 123) (v := ?_) (a' := ?_) #[true, true, false, false, false, false, false, false, false] rfl rfl (by kernel_rfl) (fun _ _ _ h => h) (Or.inl ⟨by kernel_rfl, ?_⟩) ?_ ?_
          rotate_left
          · intro w'
            go_simp
            with_reducible rfl
          rotate_left
          · simp only [Act.put, List.setIfInBounds_toArray, List.set_cons_zero, List.set_cons_succ, i64_w, i32_w]
            rfl
          refine pure_ (i := 4) (N := some 126) (v := ?_) (a' := ?_) #[true, true, false, false, true, false, false, false, false] rfl rfl (by kernel_rfl) (fun _ _ _ h => h) (Or.inl ⟨by kernel_rfl, ?_⟩) ?_ ?_
          rotate_left
          · intro w'
            go_simp
            with_reducible rfl
          rotate_left
          · simp only [Act.put, List.setIfInBounds_toArray, List.set_cons_zero, List.set_cons_succ, i64_w, i32_w]
            rfl
          refine pure_ (i := 5) (N := some 127) (v := ?_) (a' := ?_) #[true, true, false, false, true, true, false, false, false] rfl rfl (by kernel_rfl) (fun _ _ _ h => h) (Or.inl ⟨by kernel_rfl, ?_⟩) ?_ ?_
          rotate_left
          · intro w'
            go_simp
            with_reducible rfl
          rotate_left
          · simp only [Act.put, List.setIfInBounds_toArray, List.set_cons_zero, List.set_cons_succ, i64_w, i32_w]
            rfl
          refine take_ (i := 2) (N := some 124) (v := ?_) (a' := ?_) #[true, true, true, false, true, true, false, false, false] rfl rfl (by kernel_rfl) (fun _ _ _ h => h) (Or.inl ⟨by kernel_rfl, ?_⟩) hHeld ?_ ?_
          rotate_left
          · rintro w' s0_
            go_simp
            with_reducible rfl
          rotate_left
          · simp only [Act.put, List.setIfInBounds_toArray, List.set_cons_zero, List.set_cons_succ, i64_w, i32_w]
            rfl
          refine take_ (i := 6) (N := some 128) (v := ?_) (a' := ?_) #[true, true, true, false, true, true, true, false, false] rfl rfl (by kernel_rfl) (fun _ _ _ h => h) (Or.inl ⟨by kernel_rfl, ?_⟩) hHeld ?_ ?_
          rotate_left
          · rintro w' s0_
            go_simp
            with_reducible rfl
          rotate_left
          · simp only [Act.put, List.setIfInBounds_toArray, List.set_cons_zero, List.set_cons_succ, i64_w, i32_w]
            rfl
          refine one_ (i := 3) (N := some 125) #[true, true, true, true, true, true, true, false, false] rfl rfl (by kernel_rfl) (by decide) (fun K hK => ?_)
          refine goes_ Try.func29 (by kernel_rfl) rfl #[.pointer (some ⟨ga, 0, none⟩), .int .i64 o_.f1] (by rfl) rfl rfl (by (try simp only [List.map_toArray, List.map_cons, List.map_nil]); first | done | rfl) ?_
          refine (lose_calls _ _ _ _ _ (top_paint _ _ 1) (HKa2.out.paint 1) HOa.out.ok).mono ?_
          rintro e v1_ ⟨rfl, hk1, hf1⟩
          refine ⟨_, rfl, ?_⟩
          have HKa3 := Aside0.mk hk1; have HKr3 := Aside0.mk (HKr2.out.apart hf1 (by decide)); have F3 := Aside0.mk (F2.out.trans (FS.base hf1 C.out (by decide))); have C3 := Aside0.mk (C.out.paint 1 F2.out.size); have HTA3 := Aside0.mk (blk_apart HTA2.out.1 HTA2.out.2 hf1 (by decide))
          refine hK _ _ (blk_cell (w := v1_) HTA3.out.1 1) (fun hHeld => ?_)
          clear hK K hk1 hf1 HKa2 HKr2 F2 C HTA2
          refine norm_ (a' := ?_) ?_ ?_
          rotate_left
          · show Act.put _ (some 125) _ = _
            simp only [Act.put, List.setIfInBounds_toArray, List.set_cons_zero, List.set_cons_succ, i64_w, i32_w]
            rfl
          refine last_ (i := 7) (N := some 129) #[true, true, true, true, true, true, true, true, false] rfl rfl (by kernel_rfl) (by decide) (fun K hK => ?_)
          refine goes_ Try.func30 (by kernel_rfl) rfl #[.pointer (some ⟨gr, 0, none⟩), .int .i64 o_.f1] (by rfl) rfl rfl (by (try simp only [List.map_toArray, List.map_cons, List.map_nil]); first | done | rfl) ?_
          refine (rlose_calls _ _ _ _ _ (top_paint _ _ 2) (HKr3.out.paint 2) HOa.out.ok).mono ?_
          rintro e v2_ ⟨rfl, hk1, hf1⟩
          refine ⟨_, rfl, ?_⟩
          have HKr := Aside0.mk hk1; have HKa := Aside0.mk (HKa3.out.apart hf1 (by decide)); have F := Aside0.mk (F3.out.trans (FS.base hf1 C3.out (by decide))); have C := Aside0.mk (C3.out.paint 2 F3.out.size)
          refine hK _ _ ?_
          clear hK K hk1 hf1 HKa3 HKr3 F3 C3 HTA3
          refine norm_ (a' := ?_) ?_ ?_
          rotate_left
          · show Act.put _ (some 129) _ = _
            simp only [Act.put, List.setIfInBounds_toArray, List.set_cons_zero, List.set_cons_succ, i64_w, i32_w]
            rfl
          refine pure_ (i := 8) (N := some 130) (v := ?_) (a' := ?_) #[true, true, true, true, true, true, true, true, true] rfl rfl (by kernel_rfl) (fun _ _ _ h => h) (Or.inl ⟨by kernel_rfl, ?_⟩) ?_ ?_
          rotate_left
          · intro w'
            go_simp
            with_reducible rfl
          rotate_left
          · simp only [Act.put, List.setIfInBounds_toArray, List.set_cons_zero, List.set_cons_succ, i64_w, i32_w]
            rfl
          refine done_ (by kernel_rfl) ?_
          simp only [Exit.inBlock, Exit.then]
          go_wp2_with (fail)
          go_meet
          exact ⟨_, _, _, rfl, HKa, HKr, C, F, ⟨(ok_lose HOa.out).mono (by omega)⟩, ⟨(len_lose _ _).trans HLN.out⟩⟩
        have t55 : (o_.f0 == 5) = false := by simp [e5]
        clear e5
        go_upto_region 16 with (first | (go_at_call 24; (with_reducible refine (copy_calls _ _ _ _ HKa.out HOa.out.ok).mono ?_); rintro e w1 ⟨gc, hge, rfl, hk1, hb1⟩; have HKc := Aside0.mk (C.out.fresh hk1 4); have HKa_n := Aside0.mk ((HKa.out.paint 4).below hb1); have HKr_n := Aside0.mk ((HKr.out.paint 4).below hb1); have C_n := Aside0.mk (C.out.paint 4 F.out.size); have F_n := Aside0.mk (F.out.below hb1); clear HKa HKr C F; have HKa := HKa_n; have HKr := HKr_n; have C := C_n; have F := F_n; clear HKa_n HKr_n C_n F_n; clear hk1 hb1 hge) | (go_at_call 17; (with_reducible refine (full_int 7 (by decide) (by decide) _).mono ?_); rintro e w1 ⟨rfl, hb1⟩; have HKa_n := Aside0.mk (HKa.out.below hb1); have HKr_n := Aside0.mk (HKr.out.below hb1); have F_n := Aside0.mk (F.out.below hb1); clear HKa HKr F; have HKa := HKa_n; have HKr := HKr_n; have F := F_n; clear HKa_n HKr_n F_n; have HKc_n := Aside0.mk (HKc.out.below hb1); clear HKc; have HKc := HKc_n; clear HKc_n hb1) | (go_at_call 16; (with_reducible refine (write_calls _ _ _ _ _ _ (top_paint _ _ 1) (HKa.out.paint 1) HOa.out.ok).mono ?_); rintro e w1 ⟨rfl, hk1, hf1⟩; have HOw := Aside0.mk (okOf hk1 (ok_write HOa.out (by have := HKL.out; omega))); have HKa_n := Aside0.mk (hk1); have HKr_n := Aside0.mk (HKr.out.apart hf1 (by decide)); have HKc_n := Aside0.mk (HKc.out.apart hf1 (by decide)); have F_n := Aside0.mk (F.out.trans (FS.base hf1 C.out (by decide))); have C_n := Aside0.mk (C.out.paint 1 F.out.size); clear HKa HKr HKc F C; have HKa := HKa_n; have HKr := HKr_n; have HKc := HKc_n; have F := F_n; have C := C_n; clear HKa_n HKr_n HKc_n F_n C_n; clear hk1 hf1))
        go_upto_region 17 with (first | (go_at_call 18; (with_reducible refine (sync_calls _ _ _ _ (top_paint _ _ 1) (HKa.out.paint 1) HOw.out.ok).mono ?_); rintro e w1 ⟨rfl, hk1, hf1⟩; have HKa_n := Aside0.mk (hk1); have HKr_n := Aside0.mk (HKr.out.apart hf1 (by decide)); have HKc_n := Aside0.mk (HKc.out.apart hf1 (by decide)); have F_n := Aside0.mk (F.out.trans (FS.base hf1 C.out (by decide))); have C_n := Aside0.mk (C.out.paint 1 F.out.size); clear HKa HKr HKc F C; have HKa := HKa_n; have HKr := HKr_n; have HKc := HKc_n; have F := F_n; have C := C_n; clear HKa_n HKr_n HKc_n F_n C_n; clear hk1 hf1))
        go_wp2_with (fail)
        go_meet
        exact ⟨_, _, _, rfl, ⟨dk_turn HKc.out⟩, ⟨rk_turn HKr.out⟩, ⟨olds_turn C.out⟩, F, ⟨HOa.out.mono (by omega)⟩, HLN⟩
      case rest =>
      clear HKa HKr F C HOa HLN HTA q0 q1 q2 q3 q4 HC4 HOP HL4
      obtain ⟨ga', d', cl', rfl, HKa, HKr, C, F, HOa, HLN⟩ := hcut
      go_upto_region 33 with (fail)
      have HKa2 := Aside0.mk HKa.out.drew; have HKr2 := Aside0.mk HKr.out.drew; have F2 := Aside0.mk F.out.drew
      obtain ⟨svr, rvr, hvr⟩ := HKr2.out
      obtain ⟨A1, c1_, rfl, -⟩ := hvr.row.shape
      have z2 : wc.drew.cell? ⟨gr, 2, none⟩ = some (.bool d'.gone) := hvr.cells.1.2.2.1
      have z1 : wc.drew.cell? ⟨gr, 1, none⟩ = some (.slice A1 d'.row.length c1_) := hvr.cells.1.2.1
      clear HKa HKr F hvr
      refine start_ (n := 23) (S := fun w' => w'.cell? ⟨gr, 2, none⟩ = some (.bool d'.gone) ∧ w'.cell? ⟨gr, 1, none⟩ = some (.slice A1 d'.row.length c1_)) (ds := []) #[false, false, false, false, false, false, false, false, false, false, false, false, false, false, false, false, false, false, false, false, false, false, false] (by kernel_rfl) rfl rfl ⟨z2, z1⟩ (fun hHeld => ?_)
      refine pure_ (i := 0) (N := some 131) (v := ?_) (a' := ?_) #[true, false, false, false, false, false, false, false, false, false, false, false, false, false, false, false, false, false, false, false, false, false, false] rfl rfl (by kernel_rfl) (fun _ _ _ h => h) (Or.inl ⟨by kernel_rfl, ?_⟩) ?_ ?_
      rotate_left
      · intro w'
        go_simp
        with_reducible rfl
      rotate_left
      · simp only [Act.put, List.setIfInBounds_toArray, List.set_cons_zero, List.set_cons_succ, i64_w, i32_w]
        rfl
      refine pure_ (i := 2) (N := some 133) (v := ?_) (a' := ?_) #[true, false, true, false, false, false, false, false, false, false, false, false, false, false, false, false, false, false, false, false, false, false, false] rfl rfl (by kernel_rfl) (fun _ _ _ h => h) (Or.inl ⟨by kernel_rfl, ?_⟩) ?_ ?_
      rotate_left
      · intro w'
        go_simp
        with_reducible rfl
      rotate_left
      · simp only [Act.put, List.setIfInBounds_toArray, List.set_cons_zero, List.set_cons_succ, i64_w, i32_w]
        rfl
      refine pure_ (i := 3) (N := some 134) (v := ?_) (a' := ?_) #[true, false, true, true, false, false, false, false, false, false, false, false, false, false, false, false, false, false, false, false, false, false, false] rfl rfl (by kernel_rfl) (fun _ _ _ h => h) (Or.inl ⟨by kernel_rfl, ?_⟩) ?_ ?_
      rotate_left
      · intro w'
        go_simp
        with_reducible rfl
      rotate_left
      · simp only [Act.put, List.setIfInBounds_toArray, List.set_cons_zero, List.set_cons_succ, i64_w, i32_w]
        rfl
      refine pure_ (i := 4) (N := some 135) (v := ?_) (a' := ?_) #[true, false, true, true, true, false, false, false, false, false, false, false, false, false, false, false, false, false, false, false, false, false, false] rfl rfl (by kernel_rfl) (fun _ _ _ h => h) (Or.inl ⟨by kernel_rfl, ?_⟩) ?_ ?_
      rotate_left
      · intro w'
        go_simp
        with_reducible rfl
      rotate_left
      · simp only [Act.put, List.setIfInBounds_toArray, List.set_cons_zero, List.set_cons_succ, i64_w, i32_w]
        rfl
      refine take_ (i := 5) (N := some 136) (v := ?_) (a' := ?_) #[true, false, true, true, true, true, false, false, false, false, false, false, false, false, false, false, false, false, false, false, false, false, false] rfl rfl (by kernel_rfl) (fun _ _ _ h => h) (Or.inl ⟨by kernel_rfl, ?_⟩) hHeld ?_ ?_
      rotate_left
      · rintro w' ⟨s0_, s1_⟩
        go_simp
        with_reducible rfl
      rotate_left
      · simp only [Act.put, List.setIfInBounds_toArray, List.set_cons_zero, List.set_cons_succ, i64_w, i32_w]
        rfl
      refine one_ (i := 1) (N := some 132) #[true, true, true, true, true, true, false, false, false, false, false, false, false, false, false, false, false, false, false, false, false, false, false] rfl rfl (by kernel_rfl) (by decide) (fun K hK => ?_)
      refine goes_ Try.func22 (by kernel_rfl) rfl #[.pointer (some ⟨ga', 0, none⟩)] (by rfl) rfl rfl (by (try simp only [List.map_toArray, List.map_cons, List.map_nil]); first | done | rfl) ?_
      refine (dead_calls _ _ _ _ HKa2.out).mono ?_
      rintro e v1_ ⟨rfl, hb1⟩
      refine ⟨_, rfl, ?_⟩
      have HKa3 := Aside0.mk (HKa2.out.below hb1); have HKr3 := Aside0.mk (HKr2.out.below hb1); have F3 := Aside0.mk (F2.out.below hb1)
      refine hK _ _ (And.intro (pw_cell_below hb1 hHeld.1) (pw_cell_below hb1 hHeld.2)) (fun hHeld => ?_)
      clear hK K hb1 HKa2 HKr2 F2
      refine norm_ (a' := ?_) ?_ ?_
      rotate_left
      · show Act.put _ (some 132) _ = _
        simp only [Act.put, List.setIfInBounds_toArray, List.set_cons_zero, List.set_cons_succ, i64_w, i32_w]
        rfl
      refine pure_ (i := 6) (N := some 137) (v := ?_) (a' := ?_) #[true, true, true, true, true, true, true, false, false, false, false, false, false, false, false, false, false, false, false, false, false, false, false] rfl rfl (by kernel_rfl) (fun _ _ _ h => h) (Or.inl ⟨by kernel_rfl, ?_⟩) ?_ ?_
      rotate_left
      · intro w'
        go_simp
        with_reducible rfl
      rotate_left
      · simp only [Act.put, List.setIfInBounds_toArray, List.set_cons_zero, List.set_cons_succ, i64_w, i32_w]
        rfl
      refine pure_ (i := 7) (N := some 138) (v := ?_) (a' := ?_) #[true, true, true, true, true, true, true, true, false, false, false, false, false, false, false, false, false, false, false, false, false, false, false] rfl rfl (by kernel_rfl) (fun _ _ _ h => h) (Or.inl ⟨by kernel_rfl, ?_⟩) ?_ ?_
      rotate_left
      · intro w'
        go_simp
        with_reducible rfl
      rotate_left
      · simp only [Act.put, List.setIfInBounds_toArray, List.set_cons_zero, List.set_cons_succ, i64_w, i32_w]
        rfl
      refine pure_ (i := 8) (N := some 139) (v := ?_) (a' := ?_) #[true, true, true, true, true, true, true, true, true, false, false, false, false, false, false, false, false, false, false, false, false, false, false] rfl rfl (by kernel_rfl) (fun _ _ _ h => h) (Or.inl ⟨by kernel_rfl, ?_⟩) ?_ ?_
      rotate_left
      · intro w'
        go_simp
        with_reducible rfl
      rotate_left
      · simp only [Act.put, List.setIfInBounds_toArray, List.set_cons_zero, List.set_cons_succ, i64_w, i32_w]
        rfl
      refine pure_ (i := 10) (N := some 141) (v := ?_) (a' := ?_) #[true, true, true, true, true, true, true, true, true, false, true, false, false, false, false, false, false, false, false, false, false, false, false] rfl rfl (by kernel_rfl) (fun _ _ _ h => h) (Or.inl ⟨by kernel_rfl, ?_⟩) ?_ ?_
      rotate_left
      · intro w'
        go_simp
        with_reducible rfl
      rotate_left
      · simp only [Act.put, List.setIfInBounds_toArray, List.set_cons_zero, List.set_cons_succ, i64_w, i32_w]
        rfl
      refine pure_ (i := 11) (N := some 142) (v := ?_) (a' := ?_) #[true, true, true, true, true, true, true, true, true, false, true, true, false, false, false, false, false, false, false, false, false, false, false] rfl rfl (by kernel_rfl) (fun _ _ _ h => h) (Or.inl ⟨by kernel_rfl, ?_⟩) ?_ ?_
      rotate_left
      · intro w'
        go_simp
        with_reducible rfl
      rotate_left
      · simp only [Act.put, List.setIfInBounds_toArray, List.set_cons_zero, List.set_cons_succ, i64_w, i32_w]
        rfl
      refine pure_ (i := 12) (N := some 143) (v := ?_) (a' := ?_) #[true, true, true, true, true, true, true, true, true, false, true, true, true, false, false, false, false, false, false, false, false, false, false] rfl rfl (by kernel_rfl) (fun _ _ _ h => h) (Or.inl ⟨by kernel_rfl, ?_⟩) ?_ ?_
      rotate_left
      · intro w'
        go_simp
        with_reducible rfl
      rotate_left
      · simp only [Act.put, List.setIfInBounds_toArray, List.set_cons_zero, List.set_cons_succ, i64_w, i32_w]
        rfl
      refine take_ (i := 13) (N := some 144) (v := ?_) (a' := ?_) #[true, true, true, true, true, true, true, true, true, false, true, true, true, true, false, false, false, false, false, false, false, false, false] rfl rfl (by kernel_rfl) (fun _ _ _ h => h) (Or.inl ⟨by kernel_rfl, ?_⟩) hHeld ?_ ?_
      rotate_left
      · rintro w' ⟨s0_, s1_⟩
        go_simp
        with_reducible rfl
      rotate_left
      · simp only [Act.put, List.setIfInBounds_toArray, List.set_cons_zero, List.set_cons_succ, i64_w, i32_w]
        rfl
      refine pure_ (i := 14) (N := some 145) (v := ?_) (a' := ?_) #[true, true, true, true, true, true, true, true, true, false, true, true, true, true, true, false, false, false, false, false, false, false, false] rfl rfl (by kernel_rfl) (fun _ _ _ h => h) (Or.inl ⟨by kernel_rfl, ?_⟩) ?_ ?_
      rotate_left
      · intro w'
        go_simp
        with_reducible rfl
      rotate_left
      · simp only [Act.put, List.setIfInBounds_toArray, List.set_cons_zero, List.set_cons_succ, i64_w, i32_w]
        rfl
      refine one_ (i := 9) (N := some 140) #[true, true, true, true, true, true, true, true, true, true, true, true, true, true, true, false, false, false, false, false, false, false, false] rfl rfl (by kernel_rfl) (by decide) (fun K hK => ?_)
      refine goes_ Try.func21 (by kernel_rfl) rfl #[.pointer (some ⟨ga', 0, none⟩)] (by rfl) rfl rfl (by (try simp only [List.map_toArray, List.map_cons, List.map_nil]); first | done | rfl) ?_
      refine (waiting_calls _ _ _ _ HKa3.out).mono ?_
      rintro e v2_ ⟨rfl, hb1⟩
      refine ⟨_, rfl, ?_⟩
      have HKa4 := Aside0.mk (HKa3.out.below hb1); have HKr4 := Aside0.mk (HKr3.out.below hb1); have F4 := Aside0.mk (F3.out.below hb1)
      refine hK _ _ (And.intro (pw_cell_below hb1 hHeld.1) (pw_cell_below hb1 hHeld.2)) (fun hHeld => ?_)
      clear hK K hb1 HKa3 HKr3 F3
      refine norm_ (a' := ?_) ?_ ?_
      rotate_left
      · show Act.put _ (some 140) _ = _
        simp only [Act.put, List.setIfInBounds_toArray, List.set_cons_zero, List.set_cons_succ, i64_w, i32_w]
        rfl
      refine pure_ (i := 15) (N := some 146) (v := ?_) (a' := ?_) #[true, true, true, true, true, true, true, true, true, true, true, true, true, true, true, true, false, false, false, false, false, false, false] rfl rfl (by kernel_rfl) (fun _ _ _ h => h) (Or.inl ⟨by kernel_rfl, ?_⟩) ?_ ?_
      rotate_left
      · intro w'
        go_simp
        with_reducible rfl
      rotate_left
      · simp only [Act.put, List.setIfInBounds_toArray, List.set_cons_zero, List.set_cons_succ, i64_w, i32_w]
        rfl
      refine pure_ (i := 16) (N := some 147) (v := ?_) (a' := ?_) #[true, true, true, true, true, true, true, true, true, true, true, true, true, true, true, true, true, false, false, false, false, false, false] rfl rfl (by kernel_rfl) (fun _ _ _ h => h) (Or.inl ⟨by kernel_rfl, ?_⟩) ?_ ?_
      rotate_left
      · intro w'
        go_simp
        with_reducible rfl
      rotate_left
      · simp only [Act.put, List.setIfInBounds_toArray, List.set_cons_zero, List.set_cons_succ, i64_w, i32_w]
        rfl
      refine pure_ (i := 17) (N := some 148) (v := ?_) (a' := ?_) #[true, true, true, true, true, true, true, true, true, true, true, true, true, true, true, true, true, true, false, false, false, false, false] rfl rfl (by kernel_rfl) (fun _ _ _ h => h) (Or.inl ⟨by kernel_rfl, ?_⟩) ?_ ?_
      rotate_left
      · intro w'
        go_simp
        with_reducible rfl
      rotate_left
      · simp only [Act.put, List.setIfInBounds_toArray, List.set_cons_zero, List.set_cons_succ, i64_w, i32_w]
        rfl
      refine pure_ (i := 18) (N := some 149) (v := ?_) (a' := ?_) #[true, true, true, true, true, true, true, true, true, true, true, true, true, true, true, true, true, true, true, false, false, false, false] rfl rfl (by kernel_rfl) (fun _ _ _ h => h) (Or.inl ⟨by kernel_rfl, ?_⟩) ?_ ?_
      rotate_left
      · intro w'
        go_simp
        with_reducible rfl
      rotate_left
      · simp only [Act.put, List.setIfInBounds_toArray, List.set_cons_zero, List.set_cons_succ, i64_w, i32_w]
        rfl
      refine pure_ (i := 20) (N := some 151) (v := ?_) (a' := ?_) #[true, true, true, true, true, true, true, true, true, true, true, true, true, true, true, true, true, true, true, false, true, false, false] rfl rfl (by kernel_rfl) (fun _ _ _ h => h) (Or.inl ⟨by kernel_rfl, ?_⟩) ?_ ?_
      rotate_left
      · intro w'
        go_simp
        with_reducible rfl
      rotate_left
      · simp only [Act.put, List.setIfInBounds_toArray, List.set_cons_zero, List.set_cons_succ, i64_w, i32_w]
        rfl
      refine one_ (i := 19) (N := some 150) #[true, true, true, true, true, true, true, true, true, true, true, true, true, true, true, true, true, true, true, true, true, false, false] rfl rfl (by kernel_rfl) (by decide) (fun K hK => ?_)
      refine goes_ Try.func31 (by kernel_rfl) rfl #[.pointer (some ⟨ga', 0, none⟩)] (by rfl) rfl rfl (by (try simp only [List.map_toArray, List.map_cons, List.map_nil]); first | done | rfl) ?_
      refine (size_calls _ _ _ _ HKa4.out).mono ?_
      rintro e v3_ ⟨he, hb1⟩
      rw [HLN.out] at he
      subst he
      refine ⟨_, rfl, ?_⟩
      have HKa := Aside0.mk (HKa4.out.below hb1); have HKr := Aside0.mk (HKr4.out.below hb1); have F := Aside0.mk (F4.out.below hb1)
      refine hK _ _ (And.intro (pw_cell_below hb1 hHeld.1) (pw_cell_below hb1 hHeld.2)) (fun hHeld => ?_)
      clear hK K hb1 HKa4 HKr4 F4
      refine norm_ (a' := ?_) ?_ ?_
      rotate_left
      · show Act.put _ (some 150) _ = _
        simp only [Act.put, List.setIfInBounds_toArray, List.set_cons_zero, List.set_cons_succ, i64_w, i32_w]
        rfl
      refine pure_ (i := 21) (N := some 152) (v := ?_) (a' := ?_) #[true, true, true, true, true, true, true, true, true, true, true, true, true, true, true, true, true, true, true, true, true, true, false] rfl rfl (by kernel_rfl) (fun _ _ _ h => h) (Or.inl ⟨by kernel_rfl, ?_⟩) ?_ ?_
      rotate_left
      · intro w'
        go_simp
        with_reducible rfl
      rotate_left
      · simp only [Act.put, List.setIfInBounds_toArray, List.set_cons_zero, List.set_cons_succ, i64_w, i32_w]
        rfl
      refine pure_ (i := 22) (N := some 153) (v := ?_) (a' := ?_) #[true, true, true, true, true, true, true, true, true, true, true, true, true, true, true, true, true, true, true, true, true, true, true] rfl rfl (by kernel_rfl) (fun _ _ _ h => h) (Or.inl ⟨by kernel_rfl, ?_⟩) ?_ ?_
      rotate_left
      · intro w'
        go_simp
        with_reducible rfl
      rotate_left
      · simp only [Act.put, List.setIfInBounds_toArray, List.set_cons_zero, List.set_cons_succ, i64_w, i32_w]
        rfl
      refine done_ (by kernel_rfl) ?_
      simp only [Exit.inBlock, Exit.then]
      clear z1 z2 hHeld
      go_upto_region 36 with (fail)
      go_loopw [12] (fun v wr => ∃ j : Nat, v = .int .i64 ((j : Int) - 1) ∧ Aside0 (j ≤ n + 2) ∧ Aside0 (DK wr (Col cl' 1) ga' d') ∧ Aside0 (RK wr (Col cl' 2) gr d') ∧ Aside0 (FS (fun x => w.heap.size ≤ x) w wr)) (fun v _ => ((n : Int) + 1 - intOf v).toNat)
      case atStart => exact ⟨0, by first | rfl | go_num, ⟨by omega⟩, HKa, HKr, F⟩
      case round =>
        clear HKa HKr F
        obtain ⟨j, rfl, J, HKa, HKr, F⟩ := hrel
        by_cases hlt : j < n + 2
        · have h2 : ((j : Int) - 1) ≤ (n : Int) := by omega
          have hwj : wrap64 ((j : Int) - 1 + 1) = ((j + 1 : Nat) : Int) - 1 := by have := HN4.out; unfold wrap64; omega
          have HLJ := Aside0.mk hlt
          clear hlt
          go_wp2_with (first | (go_at_call 19; (with_reducible refine (read_calls _ _ _ _ _ HKa.out HOa.out.ok).mono ?_); rintro e w1 ⟨rfl, hb1⟩; have HKa_n := Aside0.mk (HKa.out.below hb1); have HKr_n := Aside0.mk (HKr.out.below hb1); have F_n := Aside0.mk (F.out.below hb1); clear HKa HKr F; have HKa := HKa_n; have HKr := HKr_n; have F := F_n; clear HKa_n HKr_n F_n; clear hb1) | (go_at_call 32; (with_reducible refine (rread_calls _ _ _ _ _ HKr.out HOa.out.ok).mono ?_); rintro e w1 ⟨rfl, hb1⟩; have HKa_n := Aside0.mk (HKa.out.below hb1); have HKr_n := Aside0.mk (HKr.out.below hb1); have F_n := Aside0.mk (F.out.below hb1); clear HKa HKr F; have HKa := HKa_n; have HKr := HKr_n; have F := F_n; clear HKa_n HKr_n F_n; clear hb1))
          all_goals (try simp only [hwj])
          go_roundw
          case rel => exact ⟨j + 1, by first | rfl | go_num, ⟨HLJ.out⟩, HKa, HKr, F⟩
          case measure =>
            have := HLJ.out
            try simp only [hwj]
            simp only [intOf]; omega
        · obtain rfl : j = n + 2 := by have := J.out; omega
          clear hlt
          have h2 : ¬ (((n + 2 : Nat) : Int) - 1) ≤ (n : Int) := by omega
          go_wp2
          (try simp only [hwk])
          go_roundw
          case rel => exact ⟨k + 1, ga', d', cl', by first | rfl | go_num, rfl, ⟨HLT.out⟩, HKa, HKr, C, F, HOa, HLN⟩
          case measure =>
            have := HLT.out
            simp only [intOf]; omega
    · obtain rfl : k = l.length := by have := K.out; omega
      clear hlt
      go_wp2
      go_ret
      exact ⟨rfl, FS.up F.out (Nat.le_refl _)⟩
open Classical in
noncomputable def careenlaw03_DiskPlays.f (a0 : Int) (l1 : List S31) : Option Bool := if OkOps l1 then some true else none
theorem careenlaw03_DiskPlays.calls (a0 : Int) (A1 : Option Addr) (c1 : Nat) (l1 : List (S31)) (r : Bool) (w : World) (hr1 : Kd.C k31 w A1 l1.length l1) (hc1 : l1.length ≤ c1) (h : careenlaw03_DiskPlays.f a0 l1 = some r) :
    Calls Try.prog 7 #[.int .i64 a0, .slice A1 l1.length c1] w fun e w' => e = .returned (.bool r) ∧ Below w.heap.size w w' := by
  unfold careenlaw03_DiskPlays.f at h
  by_cases ho : OkOps l1
  · rw [if_pos ho] at h
    obtain rfl := Option.some.inj h
    exact plays_walk a0 A1 c1 l1 w hr1 ho
  · rw [if_neg ho] at h
    cases h
end Go.Proofs.Ytbdfdfahpdilpaa.X3
