import Derived.Test.YtbdfdfahpdilpaaX3x91
/-! Layer 3: laws. -/
namespace Go.Proofs.Ytbdfdfahpdilpaa.X3
open Go Go.RowKit Go.ChangeMaps Go.Proofs.Ytbdfdfahpdilpaa.Arr Go.Proofs.Ytbdfdfahpdilpaa.Mp Go.Proofs.Ytbdfdfahpdilpaa.Ow Go.Proofs.Ytbdfdfahpdilpaa.Dk Go.Proofs.YtbdfdfahpdilpaaW.PrintWords Go.Proofs.YtbdfdfahpdilpaaW.PrintLast Go.Proofs.YtbdfdfahpdilpaaW.PrintMore
set_option linter.unusedVariables false
set_option linter.unusedSimpArgs false
/-- A fuse of k, and r writes or syncs behind it. -/
def Fus (n k r : Nat) (d : DS) : Prop := d.safe.length = n ∧ (if r ≤ k then d.gone = false ∧ d.fuse = (k : Int) - r else d.gone = true)
theorem fus_bears {n k r : Nat} {d : DS} (h : Fus n k r d) : bearsE d = (if r < k then 0 else 4) ∧ (bearsD d).gone = decide (k < r + 1) ∧ (bearsD d).safe.length = n ∧ (r < k → (bearsD d).fuse = (k : Int) - ((r + 1 : Nat) : Int)) := by
  obtain ⟨h1, h2⟩ := h
  by_cases hrk : r ≤ k
  · rw [if_pos hrk] at h2
    obtain ⟨h2, h3⟩ := h2
    by_cases h4 : r < k
    · have n0 : ¬ d.fuse = 0 := by omega
      have p0 : 0 < d.fuse := by omega
      refine ⟨by simp [bearsE, h2, n0, h4], ?_, by rw [bears_safe]; exact h1, fun _ => ?_⟩
      · simp [bearsD, h2, n0, p0]; omega
      · simp [bearsD, h2, n0, p0]; omega
    · have e0 : d.fuse = 0 := by omega
      refine ⟨by simp [bearsE, e0, h4], ?_, by rw [bears_safe]; exact h1, fun h => absurd h h4⟩
      simp [bearsD, h2, e0]; omega
  · rw [if_neg hrk] at h2
    have h4 : ¬ r < k := by omega
    refine ⟨by simp [bearsE, h2, h4], ?_, by rw [bears_safe]; exact h1, fun h => absurd h h4⟩
    simp [bearsD, h2]; omega
theorem fus_of {n k r : Nat} {d : DS} {g : Bool} {f : Int} {sf : List ByteArray} {rw' : List (Int × ByteArray)} (h1 : g = decide (k < r + 1)) (h2 : sf.length = n) (h3 : r < k → f = (k : Int) - ((r + 1 : Nat) : Int)) : Fus n k (r + 1) ⟨sf, rw', g, f⟩ := by
  refine ⟨h2, ?_⟩
  by_cases h : r + 1 ≤ k
  · rw [if_pos h]
    exact ⟨by rw [h1]; simp; omega, h3 (by omega)⟩
  · rw [if_neg h]
    show g = true
    rw [h1]; simp; omega
theorem fus_self {n k r : Nat} {d : DS} (h : Fus n k r d) : Fus n k (r + 1) (bearsD d) := by
  obtain ⟨_, h2, h3, h4⟩ := fus_bears h
  have := fus_of (d := d) (rw' := (bearsD d).row) h2 h3 h4
  exact this
theorem fus_sync {n k r : Nat} {d : DS} (h : Fus n k r d) : Fus n k (r + 1) (syncD d) ∧ syncE d = (if r < k then 0 else 4) := by
  refine ⟨?_, (fus_bears h).1⟩
  obtain ⟨h1, h2, h3, h4⟩ := fus_bears h
  unfold syncD
  split
  · exact fus_self h
  · exact fus_of (d := d) h2 (by rw [over_length, ← bears_safe d]; exact h3) h4
theorem fus_write {n k r : Nat} {d : DS} (h : Fus n k r d) (i : Int) (s : ByteArray) (hs : s.size = 128) (h0 : 0 ≤ i) (hn : i < n) : Fus n k (r + 1) (writeD d i s) ∧ writeE d i s = (if r < k then 0 else 4) := by
  have ht : thereD d i = true := by unfold thereD; rw [h.1, decide_eq_true h0, decide_eq_true hn]; rfl
  obtain ⟨h1, h2, h3, h4⟩ := fus_bears h
  have e : writeE d i s = bearsE d := by unfold writeE; rw [ht, hs]; simp
  refine ⟨?_, e.trans h1⟩
  unfold writeD
  rw [ht, hs]
  simp only [Bool.true_eq_false, if_false, ne_eq, not_true_eq_false]
  split
  · exact fus_self h
  · exact fus_of (d := d) h2 h3 h4
set_option maxHeartbeats 16000000 in
set_option maxRecDepth 20000 in
theorem fuse_walk (k : Int) (A0 : Option Addr) (c0 : Nat) (l : List S31) (w : World) (hr : Kd.C k31 w A0 l.length l) (ho : OkOps l) : Calls Try.prog 4 #[.int .i64 k, .slice A0 l.length c0] w fun e w' => e = .returned (.bool true) ∧ Below w.heap.size w w' := by
  have hnew : ∀ w, Calls Try.prog 13 #[.int .i64 4] w fun e w' => ∃ g, w.heap.size ≤ g ∧ e = .returned (.tuple #[.pointer (some ⟨g, 0, none⟩), .int .i64 0]) ∧ DK w' (fun k => w.heap.size ≤ k) g (newD 4) ∧ Below w.heap.size w w' := fun w => new_calls 4 (by decide) (by decide) w
  have hm := Kd.C_max hr
  have HR := Aside0.mk hr; clear hr
  have HOPS := Aside0.mk ho; clear ho
  go_enter Try.func4, Try.ntmps4
  go_upto_region 2 with (go_at_call 13; (with_reducible refine (hnew _).mono ?_); rintro e w1 ⟨g, hge, rfl, hk1, hb1⟩; have HK := Aside0.mk hk1; have F := Aside0.mk (FS.of_below hb1); have HGE := Aside0.mk hge; clear hk1 hb1 hge)
  have HS := Aside0.mk (show Top (fun k => w.heap.size ≤ k) w from fun _ h => h)
  cases hlg : longF l with
  | true =>
    go_wp2_with (first | (go_at_call 14; (with_reducible refine (awake_calls _).mono ?_); rintro e w1 ⟨rfl, hb1⟩; have n1_ := Aside0.mk (HK.out.below hb1); have n2_ := Aside0.mk (F.out.below hb1); clear HK F hb1; have HK := n1_; have F := n2_; clear n1_ n2_) | (go_at_call 15; ((with_reducible refine (long_calls _ _ _ _ (Kd.C_below HR.out (FS.up F.out (Nat.le_refl _)))).mono ?_); rintro e w1 ⟨rfl, hb1⟩; have n1_ := Aside0.mk (HK.out.below hb1); have n2_ := Aside0.mk (F.out.below hb1); clear HK F hb1; have HK := n1_; have F := n2_; clear n1_ n2_)))
    go_ret
    exact ⟨rfl, FS.up F.out (Nat.le_refl _)⟩
  | false =>
    have h300 := Aside0.mk (show l.length ≤ 300 from by
      have := hlg
      unfold longF at this
      simp only [Bool.or_eq_false_iff, decide_eq_false_iff_not] at this
      omega)
    go_upto_region 5 with (first | (go_at_call 14; (with_reducible refine (awake_calls _).mono ?_); rintro e w1 ⟨rfl, hb1⟩; have n1_ := Aside0.mk (HK.out.below hb1); have n2_ := Aside0.mk (F.out.below hb1); clear HK F hb1; have HK := n1_; have F := n2_; clear n1_ n2_) | (go_at_call 15; ((with_reducible refine (long_calls _ _ _ _ (Kd.C_below HR.out (FS.up F.out (Nat.le_refl _)))).mono ?_); rintro e w1 ⟨rfl, hb1⟩; have n1_ := Aside0.mk (HK.out.below hb1); have n2_ := Aside0.mk (F.out.below hb1); clear HK F hb1; have HK := n1_; have F := n2_; clear n1_ n2_)))
    clear hlg
    have hi := mod_ok 50 k (by decide) (by decide)
    generalize wrap64 ((IntKind.u64.wrap k).tmod 50) = k' at *
    obtain ⟨kk, rfl⟩ : ∃ kk : Nat, k' = (kk : Int) := ⟨k'.toNat, by omega⟩
    have hk50 : (kk : Int) < 50 := hi.2
    clear hi
    have HO := Aside0.mk (ok_new 4 (by decide))
    go_upto_region 6 with (go_at_call 23; (with_reducible refine (arm_calls _ _ _ _ _ HK.out).mono ?_); rintro e w1 ⟨rfl, hk1, hf1⟩; have n1_ := Aside0.mk hk1; have n2_ := Aside0.mk (F.out.trans hf1); have n3_ := Aside0.mk (okOf hk1 (ok_arm HO.out _ (by omega))); clear HK F HO hk1 hf1; have HK := n1_; have F := n2_; have HO := n3_; clear n1_ n2_ n3_)
    have HF := Aside0.mk (show Fus 4 kk 0 { newD 4 with fuse := max (kk : Int) (-1) } from ⟨by simp [newD], by rw [if_pos (Nat.zero_le _)]; exact ⟨rfl, by simp only; omega⟩⟩)
    generalize ({ newD 4 with fuse := max (kk : Int) (-1) } : DS) = d0 at *
    go_upto_region 8 with (fail)
    go_loopw [7, 39] (fun bv v wr => ∃ (r : Nat) (d : DS), v = .int .i64 r ∧ bv = .int .i64 ((min kk r : Nat) : Int) ∧ Aside0 (r ≤ l.length) ∧ Aside0 (DK wr (fun x => w.heap.size ≤ x) g d) ∧ Aside0 (FS (fun x => w.heap.size ≤ x) w wr) ∧ Aside0 (OkN r d) ∧ Aside0 (Fus 4 kk r d)) (fun _ v _ => l.length - (intOf v).toNat)
    case atStart => exact ⟨0, d0, rfl, by simp, ⟨by omega⟩, HK, F, HO, HF⟩
    case round =>
      clear HK F HO HF
      obtain ⟨r, d, rfl, rfl, R, HK, F, HO, HF⟩ := hrel
      by_cases hlt : r < l.length
      · have h1 : (r : Int) < (l.length : Int) := by omega
        have hwk : wrap64 ((r : Int) + 1) = ((r + 1 : Nat) : Int) := by unfold wrap64; omega
        have HLT := Aside0.mk hlt
        obtain ⟨ad, A4, c4, rfl, q0, q1, q2, q3, q4, hl4, hC4⟩ := at_T31 (Kd.C_below HR.out (FS.up F.out (Nat.le_refl _))) (r : Int) (by omega) h1
        rw [Int.toNat_natCast] at q0 q1 q2 q3 q4
        have HOP := Aside0.mk (HOPS.out _ (rd_mem hlt))
        clear hl4 hC4
        generalize rd_T31 l (r : Nat) = o_ at *
        go_upto_region 11 with (fail)
        have hta := heap_alloc_new wr (.cells #[.int .i64 o_.f0, .int .i64 o_.f1, .int .i64 o_.f2, .int .u8 o_.f3, .slice A4 o_.f4.length c4] 31)
        have n1_ := Aside0.mk (HK.out.below ((Below.refl wr.heap.size wr).alloc (Nat.le_refl _) (.cells #[.int .i64 o_.f0, .int .i64 o_.f1, .int .i64 o_.f2, .int .u8 o_.f3, .slice A4 o_.f4.length c4] 31)))
        have n2_ := Aside0.mk (F.out.alloc (.cells #[.int .i64 o_.f0, .int .i64 o_.f1, .int .i64 o_.f2, .int .u8 o_.f3, .slice A4 o_.f4.length c4] 31))
        clear HK F q0 q1 q2 q3 q4
        generalize wr.alloc (.cells #[.int .i64 o_.f0, .int .i64 o_.f1, .int .i64 o_.f2, .int .u8 o_.f3, .slice A4 o_.f4.length c4] 31) = W at *
        generalize wr.heap.size = ob at *
        have HTA := Aside0.mk hta; have HK := n1_; have F := n2_
        clear hta n1_ n2_
        by_cases hsm : r < kk
        · skip
          have HM := Aside0.mk (show min kk r = r by omega)
          have HSM := Aside0.mk hsm
          simp only [HM.out]
          have hb1 : ((r : Nat) : Int) = (r : Int) := rfl
          clear hb1 hsm
          have hwb : wrap64 ((r : Int) + 1) = ((r + 1 : Nat) : Int) := hwk
          by_cases hk2 : o_.f0 = 2
          · skip
            have q0 : W.cell? ⟨ob, 0, none⟩ = some (.int .i64 2) := hk2 ▸ blk_cell HTA.out 0
            clear hk2
            have HO0 := HO
            have HFS := Aside0.mk (fus_sync HF.out)
            have E : syncE d = 0 := HFS.out.2.trans (if_pos HSM.out)
            go_wp2_with (go_at_call 18; (with_reducible refine (sync_calls _ _ _ _ (HS.out.next F.out.size) HK.out HO.out.ok).mono ?_); rintro e w1 ⟨rfl, hk1, hf1⟩; have n1_ := Aside0.mk hk1; have n2_ := Aside0.mk (F.out.trans hf1); have n3_ := Aside0.mk (okOf hk1 (ok_sync HO.out)); clear HK F HO hk1 hf1; have HK := n1_; have F := n2_; have HO := n3_; clear n1_ n2_ n3_)
            (try simp only [hwk])
            go_roundw
            case rel => exact ⟨r + 1, syncD d, by first | rfl | (rw [hwk]) | go_num, by first | (rw [show min kk (r + 1) = r + 1 by have := HSM.out; omega]; rfl) | rw [show min kk (r + 1) = r + 1 by have := HSM.out; omega] | (rw [hwk, show min kk (r + 1) = r + 1 by have := HSM.out; omega]), ⟨by have := HLT.out; omega⟩, HK, F, ⟨(ok_sync HO0.out).mono (by omega)⟩, ⟨HFS.out.1⟩⟩
            case measure =>
              have := HLT.out
              show l.length - (intOf (.int .i64 ((r + 1 : Nat) : Int))).toNat < l.length - (intOf (.int .i64 (r : Int))).toNat
              simp only [intOf]; omega
          · skip
            have q0 : W.cell? ⟨ob, 0, none⟩ = some (.int .i64 o_.f0) := blk_cell HTA.out 0
            go_upto_region 13 with (fail)
            have HMO := Aside0.mk (mod_ok 4 o_.f1 (by decide) (by decide))
            have HFS := Aside0.mk (fus_write HF.out (wrap64 ((IntKind.u64.wrap o_.f1).tmod 4)) (fullI o_.f3) (fullI_size _) HMO.out.1 HMO.out.2)
            have E : writeE d (wrap64 ((IntKind.u64.wrap o_.f1).tmod 4)) (fullI o_.f3) = 0 := HFS.out.2.trans (if_pos HSM.out)
            have q1 : W.drew.cell? ⟨ob, 1, none⟩ = some (.int .i64 o_.f1) := blk_cell (w := W.drew) HTA.out 1
            have q3 : W.drew.cell? ⟨ob, 3, none⟩ = some (.int .u8 o_.f3) := blk_cell (w := W.drew) HTA.out 3
            have HK2 := Aside0.mk HK.out.drew; have F2 := Aside0.mk F.out.drew
            clear HK F
            refine start_ (n := 11) (S := fun w' => w'.cell? ⟨ob, 1, none⟩ = some (.int .i64 o_.f1) ∧ w'.cell? ⟨ob, 3, none⟩ = some (.int .u8 o_.f3)) (ds := [9]) #[false, false, false, false, false, false, false, false, false, false, false] (by kernel_rfl) rfl rfl ⟨q1, q3⟩ (fun hHeld => ?_)
            refine pure_ (i := 0) (N := some 48) (v := ?_) (a' := ?_) #[true, false, false, false, false, false, false, false, false, false, false] rfl rfl (by kernel_rfl) (fun _ _ _ h => h) (Or.inl ⟨by kernel_rfl, ?_⟩) ?_ ?_
            rotate_left
            · intro w'
              go_simp
              with_reducible rfl
            rotate_left
            · simp only [Act.put, List.setIfInBounds_toArray, List.set_cons_zero, List.set_cons_succ, i64_w, i32_w]
              rfl
            refine pure_ (i := 1) (N := some 49) (v := ?_) (a' := ?_) #[true, true, false, false, false, false, false, false, false, false, false] rfl rfl (by kernel_rfl) (fun _ _ _ h => h) (Or.inl ⟨by kernel_rfl, ?_⟩) ?_ ?_
            rotate_left
            · intro w'
              go_simp
              with_reducible rfl
            rotate_left
            · simp only [Act.put, List.setIfInBounds_toArray, List.set_cons_zero, List.set_cons_succ, i64_w, i32_w]
              rfl
            refine pure_ (i := 6) (N := some 54) (v := ?_) (a' := ?_) #[true, true, false, false, false, false, true, false, false, false, false] rfl rfl (by kernel_rfl) (fun _ _ _ h => h) (Or.inl ⟨by kernel_rfl, ?_⟩) ?_ ?_
            rotate_left
            · intro w'
              go_simp
              with_reducible rfl
            rotate_left
            · simp only [Act.put, List.setIfInBounds_toArray, List.set_cons_zero, List.set_cons_succ, i64_w, i32_w]
              rfl
            refine take_ (i := 2) (N := some 50) (v := ?_) (a' := ?_) #[true, true, true, false, false, false, true, false, false, false, false] rfl rfl (by kernel_rfl) (fun _ _ _ h => h) (Or.inl ⟨by kernel_rfl, ?_⟩) hHeld ?_ ?_
            rotate_left
            · rintro w' ⟨s0_, s1_⟩
              go_simp
              with_reducible rfl
            rotate_left
            · simp only [Act.put, List.setIfInBounds_toArray, List.set_cons_zero, List.set_cons_succ, i64_w, i32_w]
              rfl
            refine pure_ (i := 3) (N := some 51) (v := ?_) (a' := ?_) #[true, true, true, true, false, false, true, false, false, false, false] rfl rfl (by kernel_rfl) (fun _ _ _ h => h) (Or.inl ⟨by kernel_rfl, ?_⟩) ?_ ?_
            rotate_left
            · intro w'
              go_simp
              with_reducible rfl
            rotate_left
            · simp only [Act.put, List.setIfInBounds_toArray, List.set_cons_zero, List.set_cons_succ, i64_w, i32_w]
              rfl
            refine pure_ (i := 4) (N := some 52) (v := ?_) (a' := ?_) #[true, true, true, true, true, false, true, false, false, false, false] rfl rfl (by kernel_rfl) (fun _ _ _ h => h) (Or.inl ⟨by kernel_rfl, ?_⟩) ?_ ?_
            rotate_left
            · intro w'
              go_simp
              with_reducible rfl
            rotate_left
            · simp only [Act.put, List.setIfInBounds_toArray, List.set_cons_zero, List.set_cons_succ, i64_w, i32_w]
              rfl
            refine pure_ (i := 5) (N := some 53) (v := ?_) (a' := ?_) #[true, true, true, true, true, true, true, false, false, false, false] rfl rfl (by kernel_rfl) (fun _ _ _ h => h) (Or.inl ⟨by kernel_rfl, ?_⟩) ?_ ?_
            rotate_left
            · intro w'
              go_simp
              with_reducible rfl
            rotate_left
            · simp only [Act.put, List.setIfInBounds_toArray, List.set_cons_zero, List.set_cons_succ, i64_w, i32_w]
              rfl
            refine take_ (i := 7) (N := some 55) (v := ?_) (a' := ?_) #[true, true, true, true, true, true, true, true, false, false, false] rfl rfl (by kernel_rfl) (fun _ _ _ h => h) (Or.inl ⟨by kernel_rfl, ?_⟩) hHeld ?_ ?_
            rotate_left
            · rintro w' ⟨s0_, s1_⟩
              go_simp
              with_reducible rfl
            rotate_left
            · simp only [Act.put, List.setIfInBounds_toArray, List.set_cons_zero, List.set_cons_succ, i64_w, i32_w]
              rfl
            refine one_ (i := 8) (N := some 56) #[true, true, true, true, true, true, true, true, true, false, false] rfl rfl (by kernel_rfl) (by decide) (fun K hK => ?_)
            refine goes_ Try.func17 (by kernel_rfl) rfl #[.int .u8 o_.f3] (by rfl) rfl rfl (by (try simp only [List.map_toArray, List.map_cons, List.map_nil]); first | done | rfl) ?_
            refine (full_int _ HOP.out.2.2.2.1.1 HOP.out.2.2.2.1.2 _).mono ?_
            rintro e v1_ ⟨rfl, hb1⟩
            refine ⟨_, rfl, ?_⟩
            have HK3 := Aside0.mk (HK2.out.below hb1)
            have F3 := Aside0.mk (F2.out.below hb1)
            refine hK _ _ ⟨pw_cell_below hb1 hHeld.1, pw_cell_below hb1 hHeld.2⟩ (fun hHeld => ?_)
            clear hK K hb1 HK2 F2
            refine norm_ (a' := ?_) ?_ ?_
            rotate_left
            · show Act.put _ (some 56) _ = _
              simp only [Act.put, List.setIfInBounds_toArray, List.set_cons_zero, List.set_cons_succ, i64_w, i32_w]
              rfl
            refine last_ (i := 9) (N := some 57) #[true, true, true, true, true, true, true, true, true, true, false] rfl rfl (by kernel_rfl) (by decide) (fun K hK => ?_)
            refine goes_ Try.func16 (by kernel_rfl) rfl #[.pointer (some ⟨g, 0, none⟩), .int .i64 (wrap64 ((IntKind.u64.wrap o_.f1).tmod 4)), .string (fullI o_.f3)] (by rfl) rfl rfl (by (try simp only [List.map_toArray, List.map_cons, List.map_nil]); first | done | rfl) ?_
            refine (write_calls _ _ _ _ _ _ (HS.out.next F3.out.size) HK3.out HO.out.ok).mono ?_
            rintro e v2_ ⟨rfl, hk1, hf1⟩
            refine ⟨_, rfl, ?_⟩
            have HK := Aside0.mk hk1; have F := Aside0.mk (F3.out.trans hf1)
            refine hK _ _ ?_
            clear hK K hk1 hf1 HK3 F3
            refine norm_ (a' := ?_) ?_ ?_
            rotate_left
            · show Act.put _ (some 57) _ = _
              simp only [Act.put, List.setIfInBounds_toArray, List.set_cons_zero, List.set_cons_succ, i64_w, i32_w]
              rfl
            refine pure_ (i := 10) (N := some 10) (v := ?_) (a' := ?_) #[true, true, true, true, true, true, true, true, true, true, true] rfl rfl (by kernel_rfl) (fun _ _ _ h => h) (Or.inl ⟨by kernel_rfl, ?_⟩) ?_ ?_
            rotate_left
            · intro w'
              go_simp
              with_reducible rfl
            rotate_left
            · simp only [Act.put, List.setIfInBounds_toArray, List.set_cons_zero, List.set_cons_succ, i64_w, i32_w]
              rfl
            refine done_ (by kernel_rfl) ?_
            simp only [Exit.inBlock, Exit.then]
            go_wp2
            (try simp only [hwk])
            go_roundw
            case rel => exact ⟨r + 1, _, by first | rfl | (rw [hwk]) | go_num, by first | (rw [show min kk (r + 1) = r + 1 by have := HSM.out; omega]; rfl) | rw [show min kk (r + 1) = r + 1 by have := HSM.out; omega] | (rw [hwk, show min kk (r + 1) = r + 1 by have := HSM.out; omega]), ⟨by have := HLT.out; omega⟩, HK, F, ⟨ok_write HO.out (by have := HLT.out; have := h300.out; omega)⟩, ⟨HFS.out.1⟩⟩
            case measure =>
              have := HLT.out
              show l.length - (intOf (.int .i64 ((r + 1 : Nat) : Int))).toNat < l.length - (intOf (.int .i64 (r : Int))).toNat
              simp only [intOf]; omega
        · skip
          have HM := Aside0.mk (show min kk r = kk by omega)
          have HSM := Aside0.mk hsm
          simp only [HM.out]
          have hb1 : ((kk : Nat) : Int) = (kk : Int) := rfl
          clear hb1 hsm
          by_cases hk2 : o_.f0 = 2
          · skip
            have q0 : W.cell? ⟨ob, 0, none⟩ = some (.int .i64 2) := hk2 ▸ blk_cell HTA.out 0
            clear hk2
            have HO0 := HO
            have HFS := Aside0.mk (fus_sync HF.out)
            have E : syncE d = 4 := HFS.out.2.trans (if_neg HSM.out)
            go_wp2_with (go_at_call 18; (with_reducible refine (sync_calls _ _ _ _ (HS.out.next F.out.size) HK.out HO.out.ok).mono ?_); rintro e w1 ⟨rfl, hk1, hf1⟩; have n1_ := Aside0.mk hk1; have n2_ := Aside0.mk (F.out.trans hf1); have n3_ := Aside0.mk (okOf hk1 (ok_sync HO.out)); clear HK F HO hk1 hf1; have HK := n1_; have F := n2_; have HO := n3_; clear n1_ n2_ n3_)
            (try simp only [hwk])
            go_roundw
            case rel => exact ⟨r + 1, syncD d, by first | rfl | (rw [hwk]) | go_num, by rw [show min kk (r + 1) = kk by have := HSM.out; omega], ⟨by have := HLT.out; omega⟩, HK, F, ⟨(ok_sync HO0.out).mono (by omega)⟩, ⟨HFS.out.1⟩⟩
            case measure =>
              have := HLT.out
              show l.length - (intOf (.int .i64 ((r + 1 : Nat) : Int))).toNat < l.length - (intOf (.int .i64 (r : Int))).toNat
              simp only [intOf]; omega
          · skip
            have q0 : W.cell? ⟨ob, 0, none⟩ = some (.int .i64 o_.f0) := blk_cell HTA.out 0
            go_upto_region 13 with (fail)
            have HMO := Aside0.mk (mod_ok 4 o_.f1 (by decide) (by decide))
            have HFS := Aside0.mk (fus_write HF.out (wrap64 ((IntKind.u64.wrap o_.f1).tmod 4)) (fullI o_.f3) (fullI_size _) HMO.out.1 HMO.out.2)
            have E : writeE d (wrap64 ((IntKind.u64.wrap o_.f1).tmod 4)) (fullI o_.f3) = 4 := HFS.out.2.trans (if_neg HSM.out)
            have q1 : W.drew.cell? ⟨ob, 1, none⟩ = some (.int .i64 o_.f1) := blk_cell (w := W.drew) HTA.out 1
            have q3 : W.drew.cell? ⟨ob, 3, none⟩ = some (.int .u8 o_.f3) := blk_cell (w := W.drew) HTA.out 3
            have HK2 := Aside0.mk HK.out.drew; have F2 := Aside0.mk F.out.drew
            clear HK F
            refine start_ (n := 11) (S := fun w' => w'.cell? ⟨ob, 1, none⟩ = some (.int .i64 o_.f1) ∧ w'.cell? ⟨ob, 3, none⟩ = some (.int .u8 o_.f3)) (ds := [9]) #[false, false, false, false, false, false, false, false, false, false, false] (by kernel_rfl) rfl rfl ⟨q1, q3⟩ (fun hHeld => ?_)
            refine pure_ (i := 0) (N := some 48) (v := ?_) (a' := ?_) #[true, false, false, false, false, false, false, false, false, false, false] rfl rfl (by kernel_rfl) (fun _ _ _ h => h) (Or.inl ⟨by kernel_rfl, ?_⟩) ?_ ?_
            rotate_left
            · intro w'
              go_simp
              with_reducible rfl
            rotate_left
            · simp only [Act.put, List.setIfInBounds_toArray, List.set_cons_zero, List.set_cons_succ, i64_w, i32_w]
              rfl
            refine pure_ (i := 1) (N := some 49) (v := ?_) (a' := ?_) #[true, true, false, false, false, false, false, false, false, false, false] rfl rfl (by kernel_rfl) (fun _ _ _ h => h) (Or.inl ⟨by kernel_rfl, ?_⟩) ?_ ?_
            rotate_left
            · intro w'
              go_simp
              with_reducible rfl
            rotate_left
            · simp only [Act.put, List.setIfInBounds_toArray, List.set_cons_zero, List.set_cons_succ, i64_w, i32_w]
              rfl
            refine pure_ (i := 6) (N := some 54) (v := ?_) (a' := ?_) #[true, true, false, false, false, false, true, false, false, false, false] rfl rfl (by kernel_rfl) (fun _ _ _ h => h) (Or.inl ⟨by kernel_rfl, ?_⟩) ?_ ?_
            rotate_left
            · intro w'
              go_simp
              with_reducible rfl
            rotate_left
            · simp only [Act.put, List.setIfInBounds_toArray, List.set_cons_zero, List.set_cons_succ, i64_w, i32_w]
              rfl
            refine take_ (i := 2) (N := some 50) (v := ?_) (a' := ?_) #[true, true, true, false, false, false, true, false, false, false, false] rfl rfl (by kernel_rfl) (fun _ _ _ h => h) (Or.inl ⟨by kernel_rfl, ?_⟩) hHeld ?_ ?_
            rotate_left
            · rintro w' ⟨s0_, s1_⟩
              go_simp
              with_reducible rfl
            rotate_left
            · simp only [Act.put, List.setIfInBounds_toArray, List.set_cons_zero, List.set_cons_succ, i64_w, i32_w]
              rfl
            refine pure_ (i := 3) (N := some 51) (v := ?_) (a' := ?_) #[true, true, true, true, false, false, true, false, false, false, false] rfl rfl (by kernel_rfl) (fun _ _ _ h => h) (Or.inl ⟨by kernel_rfl, ?_⟩) ?_ ?_
            rotate_left
            · intro w'
              go_simp
              with_reducible rfl
            rotate_left
            · simp only [Act.put, List.setIfInBounds_toArray, List.set_cons_zero, List.set_cons_succ, i64_w, i32_w]
              rfl
            refine pure_ (i := 4) (N := some 52) (v := ?_) (a' := ?_) #[true, true, true, true, true, false, true, false, false, false, false] rfl rfl (by kernel_rfl) (fun _ _ _ h => h) (Or.inl ⟨by kernel_rfl, ?_⟩) ?_ ?_
            rotate_left
            · intro w'
              go_simp
              with_reducible rfl
            rotate_left
            · simp only [Act.put, List.setIfInBounds_toArray, List.set_cons_zero, List.set_cons_succ, i64_w, i32_w]
              rfl
            refine pure_ (i := 5) (N := some 53) (v := ?_) (a' := ?_) #[true, true, true, true, true, true, true, false, false, false, false] rfl rfl (by kernel_rfl) (fun _ _ _ h => h) (Or.inl ⟨by kernel_rfl, ?_⟩) ?_ ?_
            rotate_left
            · intro w'
              go_simp
              with_reducible rfl
            rotate_left
            · simp only [Act.put, List.setIfInBounds_toArray, List.set_cons_zero, List.set_cons_succ, i64_w, i32_w]
              rfl
            refine take_ (i := 7) (N := some 55) (v := ?_) (a' := ?_) #[true, true, true, true, true, true, true, true, false, false, false] rfl rfl (by kernel_rfl) (fun _ _ _ h => h) (Or.inl ⟨by kernel_rfl, ?_⟩) hHeld ?_ ?_
            rotate_left
            · rintro w' ⟨s0_, s1_⟩
              go_simp
              with_reducible rfl
            rotate_left
            · simp only [Act.put, List.setIfInBounds_toArray, List.set_cons_zero, List.set_cons_succ, i64_w, i32_w]
              rfl
            refine one_ (i := 8) (N := some 56) #[true, true, true, true, true, true, true, true, true, false, false] rfl rfl (by kernel_rfl) (by decide) (fun K hK => ?_)
            refine goes_ Try.func17 (by kernel_rfl) rfl #[.int .u8 o_.f3] (by rfl) rfl rfl (by (try simp only [List.map_toArray, List.map_cons, List.map_nil]); first | done | rfl) ?_
            refine (full_int _ HOP.out.2.2.2.1.1 HOP.out.2.2.2.1.2 _).mono ?_
            rintro e v1_ ⟨rfl, hb1⟩
            refine ⟨_, rfl, ?_⟩
            have HK3 := Aside0.mk (HK2.out.below hb1)
            have F3 := Aside0.mk (F2.out.below hb1)
            refine hK _ _ ⟨pw_cell_below hb1 hHeld.1, pw_cell_below hb1 hHeld.2⟩ (fun hHeld => ?_)
            clear hK K hb1 HK2 F2
            refine norm_ (a' := ?_) ?_ ?_
            rotate_left
            · show Act.put _ (some 56) _ = _
              simp only [Act.put, List.setIfInBounds_toArray, List.set_cons_zero, List.set_cons_succ, i64_w, i32_w]
              rfl
            refine last_ (i := 9) (N := some 57) #[true, true, true, true, true, true, true, true, true, true, false] rfl rfl (by kernel_rfl) (by decide) (fun K hK => ?_)
            refine goes_ Try.func16 (by kernel_rfl) rfl #[.pointer (some ⟨g, 0, none⟩), .int .i64 (wrap64 ((IntKind.u64.wrap o_.f1).tmod 4)), .string (fullI o_.f3)] (by rfl) rfl rfl (by (try simp only [List.map_toArray, List.map_cons, List.map_nil]); first | done | rfl) ?_
            refine (write_calls _ _ _ _ _ _ (HS.out.next F3.out.size) HK3.out HO.out.ok).mono ?_
            rintro e v2_ ⟨rfl, hk1, hf1⟩
            refine ⟨_, rfl, ?_⟩
            have HK := Aside0.mk hk1; have F := Aside0.mk (F3.out.trans hf1)
            refine hK _ _ ?_
            clear hK K hk1 hf1 HK3 F3
            refine norm_ (a' := ?_) ?_ ?_
            rotate_left
            · show Act.put _ (some 57) _ = _
              simp only [Act.put, List.setIfInBounds_toArray, List.set_cons_zero, List.set_cons_succ, i64_w, i32_w]
              rfl
            refine pure_ (i := 10) (N := some 10) (v := ?_) (a' := ?_) #[true, true, true, true, true, true, true, true, true, true, true] rfl rfl (by kernel_rfl) (fun _ _ _ h => h) (Or.inl ⟨by kernel_rfl, ?_⟩) ?_ ?_
            rotate_left
            · intro w'
              go_simp
              with_reducible rfl
            rotate_left
            · simp only [Act.put, List.setIfInBounds_toArray, List.set_cons_zero, List.set_cons_succ, i64_w, i32_w]
              rfl
            refine done_ (by kernel_rfl) ?_
            simp only [Exit.inBlock, Exit.then]
            go_wp2
            (try simp only [hwk])
            go_roundw
            case rel => exact ⟨r + 1, _, by first | rfl | (rw [hwk]) | go_num, by rw [show min kk (r + 1) = kk by have := HSM.out; omega], ⟨by have := HLT.out; omega⟩, HK, F, ⟨ok_write HO.out (by have := HLT.out; have := h300.out; omega)⟩, ⟨HFS.out.1⟩⟩
            case measure =>
              have := HLT.out
              show l.length - (intOf (.int .i64 ((r + 1 : Nat) : Int))).toNat < l.length - (intOf (.int .i64 (r : Int))).toNat
              simp only [intOf]; omega
      · obtain rfl : r = l.length := by have := R.out; omega
        clear hlt
        have HO2 := Aside0.mk (HO.out.mono (n' := 1000) (by have := h300.out; omega)); clear HO; have HO := HO2; clear HO2
        have hmin : min (kk : Int) (l.length : Int) = ((min kk l.length : Nat) : Int) := by omega
        have hdg : d.gone = decide ((kk : Int) < (l.length : Int)) := by
          have := HF.out.2
          by_cases h : l.length ≤ kk
          · rw [if_pos h] at this
            rw [this.1, decide_eq_false (by omega)]
          · rw [if_neg h] at this
            rw [this, decide_eq_true (by omega)]
        have hcg : (crashD 0 (fun _ => 0) d).gone = false := rfl
        have hce : syncE (crashD 0 (fun _ => 0) d) = 0 := rfl
        go_wp2_with (first | (go_at_call 22; (with_reducible refine (dead_calls _ _ _ _ HK.out).mono ?_); rintro e w1 ⟨rfl, hb1⟩; have n1_ := Aside0.mk (HK.out.below hb1); have n2_ := Aside0.mk (F.out.below hb1); clear HK F hb1; have HK := n1_; have F := n2_; clear n1_ n2_) | (go_at_call 20; (with_reducible refine (crash_calls _ _ _ 0 _ (fun _ => 0) _ _ (HS.out.next F.out.size) HK.out HO.out.ok (pk_nil _ _ _ _) (fun _ => by show 0 < 256; decide)).mono ?_); rintro e w1 ⟨rfl, hk1, hf1⟩; have n1_ := Aside0.mk hk1; have n2_ := Aside0.mk (F.out.trans hf1); have n3_ := Aside0.mk (okOf hk1 (ok_crash HO.out)); clear HK F HO hk1 hf1; have HK := n1_; have F := n2_; have HO := n3_; clear n1_ n2_ n3_) | (go_at_call 18; (with_reducible refine (sync_calls _ _ _ _ (HS.out.next F.out.size) HK.out HO.out.ok).mono ?_); rintro e w1 ⟨rfl, hk1, hf1⟩; have n1_ := Aside0.mk hk1; have n2_ := Aside0.mk (F.out.trans hf1); have n3_ := Aside0.mk (okOf hk1 (ok_sync HO.out)); clear HK F HO hk1 hf1; have HK := n1_; have F := n2_; have HO := n3_; clear n1_ n2_ n3_))
        go_ret
        exact ⟨rfl, FS.up F.out (Nat.le_refl _)⟩
open Classical in
noncomputable def careenlaw03_DiskFuse.f (a0 : Int) (l1 : List S31) : Option Bool := if OkOps l1 then some true else none
theorem careenlaw03_DiskFuse.calls (a0 : Int) (A1 : Option Addr) (c1 : Nat) (l1 : List (S31)) (r : Bool) (w : World) (hr1 : Kd.C k31 w A1 l1.length l1) (hc1 : l1.length ≤ c1) (h : careenlaw03_DiskFuse.f a0 l1 = some r) :
    Calls Try.prog 4 #[.int .i64 a0, .slice A1 l1.length c1] w fun e w' => e = .returned (.bool r) ∧ Below w.heap.size w w' := by
  unfold careenlaw03_DiskFuse.f at h
  by_cases ho : OkOps l1
  · rw [if_pos ho] at h
    obtain rfl := Option.some.inj h
    exact fuse_walk a0 A1 c1 l1 w hr1 ho
  · rw [if_neg ho] at h
    cases h
end Go.Proofs.Ytbdfdfahpdilpaa.X3
