import Derived.Test.YtbdfdfahpdilpaaX3x91
import Derived.Test.YtbdfdfahpdilpaaZB
/-! Layer 3: laws. -/
namespace Go.Proofs.Ytbdfdfahpdilpaa.X3
open Go Go.RowKit Go.ChangeMaps Go.Proofs.Ytbdfdfahpdilpaa.Arr Go.Proofs.Ytbdfdfahpdilpaa.Mp Go.Proofs.Ytbdfdfahpdilpaa.Ow Go.Proofs.Ytbdfdfahpdilpaa.Dk Go.Proofs.YtbdfdfahpdilpaaW.PrintWords Go.Proofs.YtbdfdfahpdilpaaW.PrintLast Go.Proofs.YtbdfdfahpdilpaaW.PrintMore
set_option linter.unusedVariables false
set_option linter.unusedSimpArgs false
theorem crash_keep (n : Nat) (row : List (Int × ByteArray)) (safe : List ByteArray) (p : Nat → Nat) (hp : ∀ j, fateN n p j = 0) : ∀ k, crashT n p row safe k = safe := by
  intro k
  induction k with
  | zero => rfl
  | succ k ih =>
    cases hq : row[k]? with
    | none => show (match row[k]? with | some q => _ | none => _) = safe; rw [hq]; exact ih
    | some q => rw [crashT_succ hq, hp, ih]; rfl
theorem crash_all (n : Nat) (row : List (Int × ByteArray)) (safe : List ByteArray) (p : Nat → Nat) (hp : ∀ j, fateN n p j = 1) (hr : ∀ q ∈ row, 0 ≤ q.1) : ∀ k, k ≤ row.length → crashT n p row safe k = overF (lastOf (row.take k)) safe := by
  intro k
  induction k with
  | zero => intro _; rw [List.take_zero, last_nil, over_none]; rfl
  | succ k ih =>
    intro hk
    have hq : row[k]? = some row[k] := List.getElem?_eq_getElem (by omega)
    rw [crashT_succ hq, hp, ih (by omega), List.take_succ_eq_append_getElem (by omega)]
    exact over_set _ _ safe (row[k]).1 (row[k]).2 (hr _ (List.getElem_mem _)) (fun i => by rw [show (lastOf (row.take k ++ [row[k]])) = _ from last_push (row.take k) (row[k]).1 (row[k]).2])
theorem fate_one (n : Nat) (v : Nat) (j : Nat) (hn : 0 < n) (hv : v < 3) : fateN n (fun _ => v) j = v := by
  unfold fateN
  rw [if_neg (by omega)]
  show v % 3 = v
  omega
theorem live_crash {n a : Nat} {p : Nat → Nat} {d : DS} (h : Live n d) : Live n (crashD a p d) := ⟨rfl, rfl, by simp [crashD, crashT_length, h.2.2]⟩
theorem live_syncD {n : Nat} {d : DS} (h : Live n d) : syncD d = settleD { d with safe := overF (lastOf d.row) d.safe } := by
  unfold syncD
  rw [(live_bears h).1, (live_bears h).2]
  simp
theorem all_same {n : Nat} {d : DS} (h : Live n d) (ho : OkD d) : crashD 1 (fun _ => 1) d = syncD d := by
  rw [live_syncD h]
  obtain ⟨h1, h2, h3⟩ := h
  cases d
  subst h1
  subst h2
  simp only [crashD, settleD]
  rw [crash_all 1 _ _ _ (fun j => fate_one 1 1 j (by decide) (by decide)) (fun q hq => (ho.2.2.2.2 q hq).1) _ (Nat.le_refl _), List.take_length]
theorem none_same {n : Nat} {d : DS} (h : Live n d) (i : Int) (h0 : 0 ≤ i) (h1 : i < n) : readS (crashD 1 (fun _ => 0) d) i = (d.safe[i.toNat]?).getD ⟨#[]⟩ := by
  rw [live_readS (live_crash h) i h0 h1]
  simp only [crashD]
  rw [crash_keep 1 _ _ _ (fun j => fate_one 1 0 j (by decide) (by decide))]
  rfl
theorem clean_read {n : Nat} {d : DS} (h : Live n d) (hr : d.row = []) (i : Int) (h0 : 0 ≤ i) (h1 : i < n) : readS d i = (d.safe[i.toNat]?).getD ⟨#[]⟩ := by
  rw [live_readS h i h0 h1, hr]
  rfl
set_option maxHeartbeats 16000000 in
set_option maxRecDepth 20000 in
theorem all_walk (A0 : Option Addr) (c0 : Nat) (l : List S31) (B0 : Option Addr) (e0 : Nat) (l2 : List S31) (w : World) (hr : Kd.C k31 w A0 l.length l) (ho : OkOps l) (hr2 : Kd.C k31 w B0 l2.length l2) (ho2 : OkOps l2) : Calls Try.prog 6 #[.slice A0 l.length c0, .slice B0 l2.length e0] w fun e w' => e = .returned (.bool true) ∧ Below w.heap.size w w' := by
  have hnew : ∀ w, Calls Try.prog 13 #[.int .i64 6] w fun e w' => ∃ g, w.heap.size ≤ g ∧ e = .returned (.tuple #[.pointer (some ⟨g, 0, none⟩), .int .i64 0]) ∧ DK w' (fun k => w.heap.size ≤ k) g (newD 6) ∧ Below w.heap.size w w' := fun w => new_calls 6 (by decide) (by decide) w
  have hm := Kd.C_max hr
  have hm2 := Kd.C_max hr2
  have HR := Aside0.mk hr; have HR2 := Aside0.mk hr2; clear hr hr2
  have HOPS := Aside0.mk ho; have HOPS2 := Aside0.mk ho2; clear ho ho2
  go_enter Try.func6, Try.ntmps6
  go_upto_region 2 with (go_at_call 13; (with_reducible refine (hnew _).mono ?_); rintro e w1 ⟨ga, hge, rfl, hk1, hb1⟩; have HKa := Aside0.mk (hk1.fresh (fun _ => 0) 1); have C := Aside0.mk (olds_paint0 w.heap.size w.heap.size 1 (Nat.le_refl _)); have F := Aside0.mk (FS.of_below hb1); clear hk1 hb1 hge)
  generalize Dk.paint (fun _ => 0) w.heap.size 1 = cl at *
  cases hlg : longF l with
  | true =>
    go_wp2_with (first | (go_at_call 14; (with_reducible refine (awake_calls _).mono ?_); rintro e w1 ⟨rfl, hb1⟩; have HKa_n := Aside0.mk (HKa.out.below hb1); have F_n := Aside0.mk (F.out.below hb1); clear HKa F; have HKa := HKa_n; have F := F_n; clear HKa_n F_n; clear hb1) | (go_at_call 15; (with_reducible refine (long_calls _ _ l _ (Kd.C_below HR.out (FS.up F.out (Nat.le_refl _)))).mono ?_); rintro e w1 ⟨rfl, hb1⟩; have HKa_n := Aside0.mk (HKa.out.below hb1); have F_n := Aside0.mk (F.out.below hb1); clear HKa F; have HKa := HKa_n; have F := F_n; clear HKa_n F_n; clear hb1))
    go_ret
    exact ⟨rfl, FS.up F.out (Nat.le_refl _)⟩
  | false =>
  cases hlg2 : longF l2 with
  | true =>
    go_wp2_with (first | (go_at_call 14; (with_reducible refine (awake_calls _).mono ?_); rintro e w1 ⟨rfl, hb1⟩; have HKa_n := Aside0.mk (HKa.out.below hb1); have F_n := Aside0.mk (F.out.below hb1); clear HKa F; have HKa := HKa_n; have F := F_n; clear HKa_n F_n; clear hb1) | (go_at_call 15; (with_reducible refine (long_calls _ _ l _ (Kd.C_below HR.out (FS.up F.out (Nat.le_refl _)))).mono ?_); rintro e w1 ⟨rfl, hb1⟩; have HKa_n := Aside0.mk (HKa.out.below hb1); have F_n := Aside0.mk (F.out.below hb1); clear HKa F; have HKa := HKa_n; have F := F_n; clear HKa_n F_n; clear hb1) | (go_at_call 15; (with_reducible refine (long_calls _ _ l2 _ (Kd.C_below HR2.out (FS.up F.out (Nat.le_refl _)))).mono ?_); rintro e w1 ⟨rfl, hb1⟩; have HKa_n := Aside0.mk (HKa.out.below hb1); have F_n := Aside0.mk (F.out.below hb1); clear HKa F; have HKa := HKa_n; have F := F_n; clear HKa_n F_n; clear hb1))
    go_ret
    exact ⟨rfl, FS.up F.out (Nat.le_refl _)⟩
  | false =>
    have h300 := Aside0.mk (show l.length ≤ 300 ∧ l2.length ≤ 300 from by
      have := hlg
      have := hlg2
      unfold longF at *
      simp only [Bool.or_eq_false_iff, decide_eq_false_iff_not] at *
      omega)
    go_upto_region 5 with (first | (go_at_call 14; (with_reducible refine (awake_calls _).mono ?_); rintro e w1 ⟨rfl, hb1⟩; have HKa_n := Aside0.mk (HKa.out.below hb1); have F_n := Aside0.mk (F.out.below hb1); clear HKa F; have HKa := HKa_n; have F := F_n; clear HKa_n F_n; clear hb1) | (go_at_call 15; (with_reducible refine (long_calls _ _ l _ (Kd.C_below HR.out (FS.up F.out (Nat.le_refl _)))).mono ?_); rintro e w1 ⟨rfl, hb1⟩; have HKa_n := Aside0.mk (HKa.out.below hb1); have F_n := Aside0.mk (F.out.below hb1); clear HKa F; have HKa := HKa_n; have F := F_n; clear HKa_n F_n; clear hb1) | (go_at_call 15; (with_reducible refine (long_calls _ _ l2 _ (Kd.C_below HR2.out (FS.up F.out (Nat.le_refl _)))).mono ?_); rintro e w1 ⟨rfl, hb1⟩; have HKa_n := Aside0.mk (HKa.out.below hb1); have F_n := Aside0.mk (F.out.below hb1); clear HKa F; have HKa := HKa_n; have F := F_n; clear HKa_n F_n; clear hb1))
    clear hlg hlg2
    go_loopw [48] (fun v wr => ∃ (k : Nat) (d : DS) (cl : Nat → Nat), v = .int .i64 k ∧ Aside0 (k ≤ l.length) ∧ Aside0 (DK wr (Col cl 1) ga d) ∧ Aside0 (Olds cl w.heap.size) ∧ Aside0 (FS (fun x => w.heap.size ≤ x) w wr) ∧ Aside0 (OkN k d) ∧ Aside0 (Live 6 d)) (fun v _ => l.length - (intOf v).toNat)
    case atStart => exact ⟨0, newD 6, cl, rfl, ⟨by omega⟩, HKa, C, F, ⟨ok_new 6 (by decide)⟩, ⟨live_new 6⟩⟩
    case round =>
      clear HKa F C
      obtain ⟨k, d, cl, rfl, K, HKa, C, F, HOa, HL⟩ := hrel
      by_cases hlt : k < l.length
      · have h1 : (k : Int) < (l.length : Int) := by omega
        have hwk : wrap64 ((k : Int) + 1) = ((k + 1 : Nat) : Int) := by unfold wrap64; omega
        have HLT := Aside0.mk hlt
        obtain ⟨ad, A4, c4, rfl, q0, q1, q2, q3, q4, hl4, hC4⟩ := at_T31 (Kd.C_below HR.out (FS.up F.out (Nat.le_refl _))) (k : Int) (by omega) h1
        rw [Int.toNat_natCast] at q0 q1 q2 q3 q4
        have HOP := Aside0.mk (HOPS.out _ (rd_mem hlt))
        clear hl4 hC4
        generalize rd_T31 l (k : Nat) = o_ at *
        go_upto_region 7 with (fail)
        have hta := heap_alloc_new wr (.cells #[.int .i64 o_.f0, .int .i64 o_.f1, .int .i64 o_.f2, .int .u8 o_.f3, .slice A4 o_.f4.length c4] 31)
        have HKa_n := Aside0.mk (HKa.out.below ((Below.refl wr.heap.size wr).alloc (Nat.le_refl _) (.cells #[.int .i64 o_.f0, .int .i64 o_.f1, .int .i64 o_.f2, .int .u8 o_.f3, .slice A4 o_.f4.length c4] 31)))
        have F_n := Aside0.mk (F.out.alloc (.cells #[.int .i64 o_.f0, .int .i64 o_.f1, .int .i64 o_.f2, .int .u8 o_.f3, .slice A4 o_.f4.length c4] 31))
        clear F q0 q1 q2 q3 q4 HKa
        generalize wr.alloc (.cells #[.int .i64 o_.f0, .int .i64 o_.f1, .int .i64 o_.f2, .int .u8 o_.f3, .slice A4 o_.f4.length c4] 31) = W at *
        generalize wr.heap.size = ob at *
        have HTA := Aside0.mk hta; have F := F_n; have HKa := HKa_n
        clear hta F_n HKa_n
        have q1 : W.drew.cell? ⟨ob, 1, none⟩ = some (.int .i64 o_.f1) := blk_cell (w := W.drew) HTA.out 1
        have q3 : W.drew.cell? ⟨ob, 3, none⟩ = some (.int .u8 o_.f3) := blk_cell (w := W.drew) HTA.out 3
        have HKa2 := Aside0.mk HKa.out.drew; have F2 := Aside0.mk F.out.drew
        clear HKa F
        refine start_ (n := 10) (S := fun w' => w'.cell? ⟨ob, 1, none⟩ = some (.int .i64 o_.f1) ∧ w'.cell? ⟨ob, 3, none⟩ = some (.int .u8 o_.f3)) (ds := [9]) #[false, false, false, false, false, false, false, false, false, false] (by kernel_rfl) rfl rfl ⟨q1, q3⟩ (fun hHeld => ?_)
        refine pure_ (i := 0) (N := some 52) (v := ?_) (a' := ?_) #[true, false, false, false, false, false, false, false, false, false] rfl rfl (by kernel_rfl) (fun _ _ _ h => h) (Or.inl ⟨by kernel_rfl, ?_⟩) ?_ ?_
        rotate_left
        · intro w'
          go_simp
          with_reducible rfl
        rotate_left
        · simp only [Act.put, List.setIfInBounds_toArray, List.set_cons_zero, List.set_cons_succ, i64_w, i32_w]
          rfl
        refine pure_ (i := 1) (N := some 53) (v := ?_) (a' := ?_) #[true, true, false, false, false, false, false, false, false, false] rfl rfl (by kernel_rfl) (fun _ _ _ h => h) (Or.inl ⟨by kernel_rfl, ?_⟩) ?_ ?_
        rotate_left
        · intro w'
          go_simp
          with_reducible rfl
        rotate_left
        · simp only [Act.put, List.setIfInBounds_toArray, List.set_cons_zero, List.set_cons_succ, i64_w, i32_w]
          rfl
        refine pure_ (i := 6) (N := some 58) (v := ?_) (a' := ?_) #[true, true, false, false, false, false, true, false, false, false] rfl rfl (by kernel_rfl) (fun _ _ _ h => h) (Or.inl ⟨by kernel_rfl, ?_⟩) ?_ ?_
        rotate_left
        · intro w'
          go_simp
          with_reducible rfl
        rotate_left
        · simp only [Act.put, List.setIfInBounds_toArray, List.set_cons_zero, List.set_cons_succ, i64_w, i32_w]
          rfl
        refine take_ (i := 2) (N := some 54) (v := ?_) (a' := ?_) #[true, true, true, false, false, false, true, false, false, false] rfl rfl (by kernel_rfl) (fun _ _ _ h => h) (Or.inl ⟨by kernel_rfl, ?_⟩) hHeld ?_ ?_
        rotate_left
        · rintro w' ⟨s0_, s1_⟩
          go_simp
          with_reducible rfl
        rotate_left
        · simp only [Act.put, List.setIfInBounds_toArray, List.set_cons_zero, List.set_cons_succ, i64_w, i32_w]
          rfl
        refine pure_ (i := 3) (N := some 55) (v := ?_) (a' := ?_) #[true, true, true, true, false, false, true, false, false, false] rfl rfl (by kernel_rfl) (fun _ _ _ h => h) (Or.inl ⟨by kernel_rfl, ?_⟩) ?_ ?_
        rotate_left
        · intro w'
          go_simp
          with_reducible rfl
        rotate_left
        · simp only [Act.put, List.setIfInBounds_toArray, List.set_cons_zero, List.set_cons_succ, i64_w, i32_w]
          rfl
        refine pure_ (i := 4) (N := some 56) (v := ?_) (a' := ?_) #[true, true, true, true, true, false, true, false, false, false] rfl rfl (by kernel_rfl) (fun _ _ _ h => h) (Or.inl ⟨by kernel_rfl, ?_⟩) ?_ ?_
        rotate_left
        · intro w'
          go_simp
          with_reducible rfl
        rotate_left
        · simp only [Act.put, List.setIfInBounds_toArray, List.set_cons_zero, List.set_cons_succ, i64_w, i32_w]
          rfl
        refine pure_ (i := 5) (N := some 57) (v := ?_) (a' := ?_) #[true, true, true, true, true, true, true, false, false, false] rfl rfl (by kernel_rfl) (fun _ _ _ h => h) (Or.inl ⟨by kernel_rfl, ?_⟩) ?_ ?_
        rotate_left
        · intro w'
          go_simp
          with_reducible rfl
        rotate_left
        · simp only [Act.put, List.setIfInBounds_toArray, List.set_cons_zero, List.set_cons_succ, i64_w, i32_w]
          rfl
        refine take_ (i := 7) (N := some 59) (v := ?_) (a' := ?_) #[true, true, true, true, true, true, true, true, false, false] rfl rfl (by kernel_rfl) (fun _ _ _ h => h) (Or.inl ⟨by kernel_rfl, ?_⟩) hHeld ?_ ?_
        rotate_left
        · rintro w' ⟨s0_, s1_⟩
          go_simp
          with_reducible rfl
        rotate_left
        · simp only [Act.put, List.setIfInBounds_toArray, List.set_cons_zero, List.set_cons_succ, i64_w, i32_w]
          rfl
        refine one_ (i := 8) (N := some 60) #[true, true, true, true, true, true, true, true, true, false] rfl rfl (by kernel_rfl) (by decide) (fun K hK => ?_)
        refine goes_ Try.func17 (by kernel_rfl) rfl #[.int .u8 o_.f3] (by rfl) rfl rfl (by (try simp only [List.map_toArray, List.map_cons, List.map_nil]); first | done | rfl) ?_
        refine (full_int _ HOP.out.2.2.2.1.1 HOP.out.2.2.2.1.2 _).mono ?_
        rintro e v1_ ⟨rfl, hb1⟩
        refine ⟨_, rfl, ?_⟩
        have HKa3 := Aside0.mk (HKa2.out.below hb1)
        have F3 := Aside0.mk (F2.out.below hb1)
        refine hK _ _ ⟨pw_cell_below hb1 hHeld.1, pw_cell_below hb1 hHeld.2⟩ (fun hHeld => ?_)
        clear hK K hb1 F2 HKa2
        refine norm_ (a' := ?_) ?_ ?_
        rotate_left
        · show Act.put _ (some 60) _ = _
          simp only [Act.put, List.setIfInBounds_toArray, List.set_cons_zero, List.set_cons_succ, i64_w, i32_w]
          rfl
        refine last_ (i := 9) (N := some 61) #[true, true, true, true, true, true, true, true, true, true] rfl rfl (by kernel_rfl) (by decide) (fun K hK => ?_)
        refine goes_ Try.func16 (by kernel_rfl) rfl #[.pointer (some ⟨ga, 0, none⟩), .int .i64 (wrap64 ((IntKind.u64.wrap o_.f1).tmod 6)), .string (fullI o_.f3)] (by rfl) rfl rfl (by (try simp only [List.map_toArray, List.map_cons, List.map_nil]); first | done | rfl) ?_
        refine (write_calls _ _ _ _ _ _ (top_paint _ _ 1) (HKa3.out.paint 1) HOa.out.ok).mono ?_
        rintro e v2_ ⟨rfl, hk1, hf1⟩
        refine ⟨_, rfl, ?_⟩
        have HKa := Aside0.mk hk1; have F := Aside0.mk (F3.out.trans (FS.base hf1 C.out (by decide)))
        skip
        have C_n := Aside0.mk (C.out.paint 1 F3.out.size); clear C; have C := C_n; clear C_n
        refine hK _ _ ?_
        clear hK K hk1 hf1 F3 HKa3
        refine norm_ (a' := ?_) ?_ ?_
        rotate_left
        · show Act.put _ (some 61) _ = _
          simp only [Act.put, List.setIfInBounds_toArray, List.set_cons_zero, List.set_cons_succ, i64_w, i32_w]
          rfl
        refine done_ (by kernel_rfl) ?_
        simp only [Exit.inBlock, Exit.then]
        go_wp2
        (try simp only [hwk])
        go_roundw
        case rel => exact ⟨k + 1, _, _, by first | rfl | go_num, ⟨by have := HLT.out; omega⟩, HKa, C, F, ⟨ok_write HOa.out (by have := HLT.out; have := h300.out; omega)⟩, ⟨live_write _ _ HL.out⟩⟩
        case measure =>
          have := HLT.out
          show l.length - (intOf (.int .i64 ((k + 1 : Nat) : Int))).toNat < l.length - (intOf (.int .i64 (k : Int))).toNat
          simp only [intOf]; omega
      · obtain rfl : k = l.length := by have := K.out; omega
        clear hlt
        have HO2 := Aside0.mk (HOa.out.mono (n' := 1000) (by have := h300.out; omega)); clear HOa; have HOa := HO2; clear HO2
        go_upto_region 10 with (go_at_call 18; (with_reducible refine (sync_calls _ _ _ _ (top_paint _ _ 1) (HKa.out.paint 1) HOa.out.ok).mono ?_); rintro e w1 ⟨rfl, hk1, hf1⟩; have HKa_n := Aside0.mk (hk1); have F_n := Aside0.mk (F.out.trans (FS.base hf1 C.out (by decide))); have C_n := Aside0.mk (C.out.paint 1 F.out.size); have HOa_n := Aside0.mk (okOf hk1 (ok_sync HOa.out)); clear HKa F C HOa; have HKa := HKa_n; have F := F_n; have C := C_n; have HOa := HOa_n; clear HKa_n F_n C_n HOa_n; clear hk1 hf1)
        have hls := live_sync HL.out
        have hrw : (syncD d).row = [] := by rw [live_syncD HL.out]; rfl
        clear HL
        generalize syncD d = d1 at *
        have HL := Aside0.mk hls; have HRW := Aside0.mk hrw
        clear hls hrw
        go_upto_region 12 with (go_at_call 24; (with_reducible refine (copy_calls _ _ _ _ HKa.out HOa.out.ok).mono ?_); rintro e w1 ⟨gs, hges, rfl, hk1, hb1⟩; have HKa_n := Aside0.mk ((HKa.out.paint 2).below hb1); have HKs := Aside0.mk (C.out.fresh hk1 2); have HOs := HOa; have F_n := Aside0.mk (F.out.below hb1); have C_n := Aside0.mk (C.out.paint 2 F.out.size); have HGs := Aside0.mk hges; clear F C hk1 hb1 hges HKa; have F := F_n; have C := C_n; clear F_n C_n; have HKa := HKa_n; clear HKa_n)
        have HNE := HGs; clear HGs
        have HOb := HOa; have HOs0 := HOs; clear HOb HOs0
        have HSF := Aside0.mk (rfl : d1.safe = d1.safe)
        go_loopw [69] (fun v wr => ∃ (k : Nat) (d : DS) (cl : Nat → Nat), v = .int .i64 k ∧ Aside0 (k ≤ l2.length) ∧ Aside0 (DK wr (Col cl 1) ga d) ∧ Aside0 (DK wr (Col cl 2) gs d1) ∧ Aside0 (Olds cl w.heap.size) ∧ Aside0 (FS (fun x => w.heap.size ≤ x) w wr) ∧ Aside0 (OkN (1000 + k) d) ∧ Aside0 (Live 6 d) ∧ Aside0 (d.safe = d1.safe)) (fun v _ => l2.length - (intOf v).toNat)
        case atStart => exact ⟨0, d1, _, rfl, ⟨by omega⟩, HKa, HKs, C, F, HOa, HL, ⟨rfl⟩⟩
        case round =>
          have HL0 := HL
          clear HKa HKs F C HOa HL HSF
          obtain ⟨k, d, cl, rfl, K, HKa, HKs, C, F, HOa, HL, HSF⟩ := hrel
          by_cases hlt : k < l2.length
          · have h1 : (k : Int) < (l2.length : Int) := by omega
            have hwk : wrap64 ((k : Int) + 1) = ((k + 1 : Nat) : Int) := by unfold wrap64; omega
            have HLT := Aside0.mk hlt
            obtain ⟨ad, A4, c4, rfl, q0, q1, q2, q3, q4, hl4, hC4⟩ := at_T31 (Kd.C_below HR2.out (FS.up F.out (Nat.le_refl _))) (k : Int) (by omega) h1
            rw [Int.toNat_natCast] at q0 q1 q2 q3 q4
            have HOP := Aside0.mk (HOPS2.out _ (rd_mem hlt))
            clear hl4 hC4
            generalize rd_T31 l2 (k : Nat) = o_ at *
            go_upto_region 14 with (fail)
            have hta := heap_alloc_new wr (.cells #[.int .i64 o_.f0, .int .i64 o_.f1, .int .i64 o_.f2, .int .u8 o_.f3, .slice A4 o_.f4.length c4] 31)
            have HKa_n := Aside0.mk (HKa.out.below ((Below.refl wr.heap.size wr).alloc (Nat.le_refl _) (.cells #[.int .i64 o_.f0, .int .i64 o_.f1, .int .i64 o_.f2, .int .u8 o_.f3, .slice A4 o_.f4.length c4] 31)))
            have HKs_n := Aside0.mk (HKs.out.below ((Below.refl wr.heap.size wr).alloc (Nat.le_refl _) (.cells #[.int .i64 o_.f0, .int .i64 o_.f1, .int .i64 o_.f2, .int .u8 o_.f3, .slice A4 o_.f4.length c4] 31)))
            have F_n := Aside0.mk (F.out.alloc (.cells #[.int .i64 o_.f0, .int .i64 o_.f1, .int .i64 o_.f2, .int .u8 o_.f3, .slice A4 o_.f4.length c4] 31))
            clear F q0 q1 q2 q3 q4 HKa HKs
            generalize wr.alloc (.cells #[.int .i64 o_.f0, .int .i64 o_.f1, .int .i64 o_.f2, .int .u8 o_.f3, .slice A4 o_.f4.length c4] 31) = W at *
            generalize wr.heap.size = ob at *
            have HTA := Aside0.mk hta; have F := F_n; have HKa := HKa_n; have HKs := HKs_n
            clear hta F_n HKa_n HKs_n
            have q1 : W.drew.cell? ⟨ob, 1, none⟩ = some (.int .i64 o_.f1) := blk_cell (w := W.drew) HTA.out 1
            have q3 : W.drew.cell? ⟨ob, 3, none⟩ = some (.int .u8 o_.f3) := blk_cell (w := W.drew) HTA.out 3
            have HKa2 := Aside0.mk HKa.out.drew; have HKs2 := Aside0.mk HKs.out.drew; have F2 := Aside0.mk F.out.drew
            clear HKa HKs F
            refine start_ (n := 10) (S := fun w' => w'.cell? ⟨ob, 1, none⟩ = some (.int .i64 o_.f1) ∧ w'.cell? ⟨ob, 3, none⟩ = some (.int .u8 o_.f3)) (ds := [9]) #[false, false, false, false, false, false, false, false, false, false] (by kernel_rfl) rfl rfl ⟨q1, q3⟩ (fun hHeld => ?_)
            refine pure_ (i := 0) (N := some 73) (v := ?_) (a' := ?_) #[true, false, false, false, false, false, false, false, false, false] rfl rfl (by kernel_rfl) (fun _ _ _ h => h) (Or.inl ⟨by kernel_rfl, ?_⟩) ?_ ?_
            rotate_left
            · intro w'
              go_simp
              with_reducible rfl
            rotate_left
            · simp only [Act.put, List.setIfInBounds_toArray, List.set_cons_zero, List.set_cons_succ, i64_w, i32_w]
              rfl
            refine pure_ (i := 1) (N := some 74) (v := ?_) (a' := ?_) #[true, true, false, false, false, false, false, false, false, false] rfl rfl (by kernel_rfl) (fun _ _ _ h => h) (Or.inl ⟨by kernel_rfl, ?_⟩) ?_ ?_
            rotate_left
            · intro w'
              go_simp
              with_reducible rfl
            rotate_left
            · simp only [Act.put, List.setIfInBounds_toArray, List.set_cons_zero, List.set_cons_succ, i64_w, i32_w]
              rfl
            refine pure_ (i := 6) (N := some 79) (v := ?_) (a' := ?_) #[true, true, false, false, false, false, true, false, false, false] rfl rfl (by kernel_rfl) (fun _ _ _ h => h) (Or.inl ⟨by kernel_rfl, ?_⟩) ?_ ?_
            rotate_left
            · intro w'
              go_simp
              with_reducible rfl
            rotate_left
            · simp only [Act.put, List.setIfInBounds_toArray, List.set_cons_zero, List.set_cons_succ, i64_w, i32_w]
              rfl
            refine take_ (i := 2) (N := some 75) (v := ?_) (a' := ?_) #[true, true, true, false, false, false, true, false, false, false] rfl rfl (by kernel_rfl) (fun _ _ _ h => h) (Or.inl ⟨by kernel_rfl, ?_⟩) hHeld ?_ ?_
            rotate_left
            · rintro w' ⟨s0_, s1_⟩
              go_simp
              with_reducible rfl
            rotate_left
            · simp only [Act.put, List.setIfInBounds_toArray, List.set_cons_zero, List.set_cons_succ, i64_w, i32_w]
              rfl
            refine pure_ (i := 3) (N := some 76) (v := ?_) (a' := ?_) #[true, true, true, true, false, false, true, false, false, false] rfl rfl (by kernel_rfl) (fun _ _ _ h => h) (Or.inl ⟨by kernel_rfl, ?_⟩) ?_ ?_
            rotate_left
            · intro w'
              go_simp
              with_reducible rfl
            rotate_left
            · simp only [Act.put, List.setIfInBounds_toArray, List.set_cons_zero, List.set_cons_succ, i64_w, i32_w]
              rfl
            refine pure_ (i := 4) (N := some 77) (v := ?_) (a' := ?_) #[true, true, true, true, true, false, true, false, false, false] rfl rfl (by kernel_rfl) (fun _ _ _ h => h) (Or.inl ⟨by kernel_rfl, ?_⟩) ?_ ?_
            rotate_left
            · intro w'
              go_simp
              with_reducible rfl
            rotate_left
            · simp only [Act.put, List.setIfInBounds_toArray, List.set_cons_zero, List.set_cons_succ, i64_w, i32_w]
              rfl
            refine pure_ (i := 5) (N := some 78) (v := ?_) (a' := ?_) #[true, true, true, true, true, true, true, false, false, false] rfl rfl (by kernel_rfl) (fun _ _ _ h => h) (Or.inl ⟨by kernel_rfl, ?_⟩) ?_ ?_
            rotate_left
            · intro w'
              go_simp
              with_reducible rfl
            rotate_left
            · simp only [Act.put, List.setIfInBounds_toArray, List.set_cons_zero, List.set_cons_succ, i64_w, i32_w]
              rfl
            refine take_ (i := 7) (N := some 80) (v := ?_) (a' := ?_) #[true, true, true, true, true, true, true, true, false, false] rfl rfl (by kernel_rfl) (fun _ _ _ h => h) (Or.inl ⟨by kernel_rfl, ?_⟩) hHeld ?_ ?_
            rotate_left
            · rintro w' ⟨s0_, s1_⟩
              go_simp
              with_reducible rfl
            rotate_left
            · simp only [Act.put, List.setIfInBounds_toArray, List.set_cons_zero, List.set_cons_succ, i64_w, i32_w]
              rfl
            refine one_ (i := 8) (N := some 81) #[true, true, true, true, true, true, true, true, true, false] rfl rfl (by kernel_rfl) (by decide) (fun K hK => ?_)
            refine goes_ Try.func17 (by kernel_rfl) rfl #[.int .u8 o_.f3] (by rfl) rfl rfl (by (try simp only [List.map_toArray, List.map_cons, List.map_nil]); first | done | rfl) ?_
            refine (full_int _ HOP.out.2.2.2.1.1 HOP.out.2.2.2.1.2 _).mono ?_
            rintro e v1_ ⟨rfl, hb1⟩
            refine ⟨_, rfl, ?_⟩
            have HKa3 := Aside0.mk (HKa2.out.below hb1); have HKs3 := Aside0.mk (HKs2.out.below hb1)
            have F3 := Aside0.mk (F2.out.below hb1)
            refine hK _ _ ⟨pw_cell_below hb1 hHeld.1, pw_cell_below hb1 hHeld.2⟩ (fun hHeld => ?_)
            clear hK K hb1 F2 HKa2 HKs2
            refine norm_ (a' := ?_) ?_ ?_
            rotate_left
            · show Act.put _ (some 81) _ = _
              simp only [Act.put, List.setIfInBounds_toArray, List.set_cons_zero, List.set_cons_succ, i64_w, i32_w]
              rfl
            refine last_ (i := 9) (N := some 82) #[true, true, true, true, true, true, true, true, true, true] rfl rfl (by kernel_rfl) (by decide) (fun K hK => ?_)
            refine goes_ Try.func16 (by kernel_rfl) rfl #[.pointer (some ⟨ga, 0, none⟩), .int .i64 (wrap64 ((IntKind.u64.wrap o_.f1).tmod 6)), .string (fullI o_.f3)] (by rfl) rfl rfl (by (try simp only [List.map_toArray, List.map_cons, List.map_nil]); first | done | rfl) ?_
            refine (write_calls _ _ _ _ _ _ (top_paint _ _ 1) (HKa3.out.paint 1) HOa.out.ok).mono ?_
            rintro e v2_ ⟨rfl, hk1, hf1⟩
            refine ⟨_, rfl, ?_⟩
            have HKa := Aside0.mk hk1; have F := Aside0.mk (F3.out.trans (FS.base hf1 C.out (by decide)))
            have HKs := Aside0.mk (HKs3.out.apart hf1 (by decide))
            have C_n := Aside0.mk (C.out.paint 1 F3.out.size); clear C; have C := C_n; clear C_n
            refine hK _ _ ?_
            clear hK K hk1 hf1 F3 HKa3 HKs3
            refine norm_ (a' := ?_) ?_ ?_
            rotate_left
            · show Act.put _ (some 82) _ = _
              simp only [Act.put, List.setIfInBounds_toArray, List.set_cons_zero, List.set_cons_succ, i64_w, i32_w]
              rfl
            refine done_ (by kernel_rfl) ?_
            simp only [Exit.inBlock, Exit.then]
            go_wp2
            (try simp only [hwk])
            go_roundw
            case rel => exact ⟨k + 1, _, _, by first | rfl | go_num, ⟨by have := HLT.out; omega⟩, HKa, HKs, C, F, ⟨ok_write HOa.out (by show 1000 + k < 1000000; have := HLT.out; have := h300.out; omega)⟩, ⟨live_write _ _ HL.out⟩, ⟨by have e := HSF.out; rw [live_writeD HL.out _ _ (fullI_size _) (mod_ok 6 _ (by decide) (by decide)).1 (mod_ok 6 _ (by decide) (by decide)).2]; exact e⟩⟩
            case measure =>
              have := HLT.out
              show l2.length - (intOf (.int .i64 ((k + 1 : Nat) : Int))).toNat < l2.length - (intOf (.int .i64 (k : Int))).toNat
              simp only [intOf]; omega

          · obtain rfl : k = l2.length := by have := K.out; omega
            clear hlt
            have HO2 := Aside0.mk (HOa.out.mono (n' := 2000) (by have := h300.out; omega)); clear HOa; have HOa := HO2; have HOD := HO2; clear HO2
            go_upto_region 17 with (first | (go_at_call 24; (with_reducible refine (copy_calls _ _ _ _ HKa.out HOa.out.ok).mono ?_); rintro e w1 ⟨gc, hgec, rfl, hk1, hb1⟩; have HKa_n := Aside0.mk ((HKa.out.paint 4).below hb1); have HKs_n := Aside0.mk ((HKs.out.paint 4).below hb1); have HKb_n := Aside0.mk ((HKb.out.paint 4).below hb1); have HKc := Aside0.mk (C.out.fresh hk1 4); have HOc := HOa; have F_n := Aside0.mk (F.out.below hb1); have C_n := Aside0.mk (C.out.paint 4 F.out.size); have HGc := Aside0.mk hgec; clear F C hk1 hb1 hgec HKa HKs HKb; have F := F_n; have C := C_n; clear F_n C_n; have HKa := HKa_n; clear HKa_n; have HKs := HKs_n; clear HKs_n; have HKb := HKb_n; clear HKb_n) | (go_at_call 24; (with_reducible refine (copy_calls _ _ _ _ HKa.out HOa.out.ok).mono ?_); rintro e w1 ⟨gb, hgeb, rfl, hk1, hb1⟩; have HKa_n := Aside0.mk ((HKa.out.paint 3).below hb1); have HKs_n := Aside0.mk ((HKs.out.paint 3).below hb1); have HKb := Aside0.mk (C.out.fresh hk1 3); have HOb := HOa; have F_n := Aside0.mk (F.out.below hb1); have C_n := Aside0.mk (C.out.paint 3 F.out.size); have HGb := Aside0.mk hgeb; clear F C hk1 hb1 hgeb HKa HKs; have F := F_n; have C := C_n; clear F_n C_n; have HKa := HKa_n; clear HKa_n; have HKs := HKs_n; clear HKs_n))
            have hsm := live_syncD HL.out
            go_upto_region 20 with (first | (go_at_call 20; have HKa_n := Aside0.mk (HKa.out.below ((Below.refl _ _).alloc (Nat.le_refl _) (.cells #[.int .u8 1] TB))); have HKs_n := Aside0.mk (HKs.out.below ((Below.refl _ _).alloc (Nat.le_refl _) (.cells #[.int .u8 1] TB))); have HKb_n := Aside0.mk (HKb.out.below ((Below.refl _ _).alloc (Nat.le_refl _) (.cells #[.int .u8 1] TB))); have HKc_n := Aside0.mk (HKc.out.below ((Below.refl _ _).alloc (Nat.le_refl _) (.cells #[.int .u8 1] TB))); have F_n := Aside0.mk (F.out.alloc (.cells #[.int .u8 1] TB)); clear HKa HKs HKb HKc F; have HKa := HKa_n; have HKs := HKs_n; have HKb := HKb_n; have HKc := HKc_n; have F := F_n; clear HKa_n HKs_n HKb_n HKc_n F_n; (with_reducible refine (crash_calls _ _ _ 1 _ (fun _ => 1) _ _ (top_paint _ _ 1) (HKa.out.paint 1) HOa.out.ok (pk_one _ _ 1) (fun _ => by show 1 < 256; decide)).mono ?_); rintro e w1 ⟨rfl, hk1, hf1⟩; have HKa_n := Aside0.mk (hk1); have HKs_n := Aside0.mk (HKs.out.apart hf1 (by decide)); have HKb_n := Aside0.mk (HKb.out.apart hf1 (by decide)); have HKc_n := Aside0.mk (HKc.out.apart hf1 (by decide)); have F_n := Aside0.mk (F.out.trans (FS.base hf1 C.out (by decide))); have C_n := Aside0.mk (C.out.paint 1 F.out.size); have HOa_n := Aside0.mk (okOf hk1 (ok_crash HOa.out)); clear HKa HKs HKb HKc F C HOa; have HKa := HKa_n; have HKs := HKs_n; have HKb := HKb_n; have HKc := HKc_n; have F := F_n; have C := C_n; have HOa := HOa_n; clear HKa_n HKs_n HKb_n HKc_n F_n C_n HOa_n; clear hk1 hf1) | (go_at_call 20; have HKa_n := Aside0.mk (HKa.out.below ((Below.refl _ _).alloc (Nat.le_refl _) (.cells #[.int .u8 0] TB))); have HKs_n := Aside0.mk (HKs.out.below ((Below.refl _ _).alloc (Nat.le_refl _) (.cells #[.int .u8 0] TB))); have HKb_n := Aside0.mk (HKb.out.below ((Below.refl _ _).alloc (Nat.le_refl _) (.cells #[.int .u8 0] TB))); have HKc_n := Aside0.mk (HKc.out.below ((Below.refl _ _).alloc (Nat.le_refl _) (.cells #[.int .u8 0] TB))); have F_n := Aside0.mk (F.out.alloc (.cells #[.int .u8 0] TB)); clear HKa HKs HKb HKc F; have HKa := HKa_n; have HKs := HKs_n; have HKb := HKb_n; have HKc := HKc_n; have F := F_n; clear HKa_n HKs_n HKb_n HKc_n F_n; (with_reducible refine (crash_calls _ _ _ 1 _ (fun _ => 0) _ _ (top_paint _ _ 4) (HKc.out.paint 4) HOc.out.ok (pk_one _ _ 0) (fun _ => by show 0 < 256; decide)).mono ?_); rintro e w1 ⟨rfl, hk1, hf1⟩; have HKc_n := Aside0.mk (hk1); have HKa_n := Aside0.mk (HKa.out.apart hf1 (by decide)); have HKs_n := Aside0.mk (HKs.out.apart hf1 (by decide)); have HKb_n := Aside0.mk (HKb.out.apart hf1 (by decide)); have F_n := Aside0.mk (F.out.trans (FS.base hf1 C.out (by decide))); have C_n := Aside0.mk (C.out.paint 4 F.out.size); have HOc_n := Aside0.mk (okOf hk1 (ok_crash HOc.out)); clear HKc HKa HKs HKb F C HOc; have HKc := HKc_n; have HKa := HKa_n; have HKs := HKs_n; have HKb := HKb_n; have F := F_n; have C := C_n; have HOc := HOc_n; clear HKc_n HKa_n HKs_n HKb_n F_n C_n HOc_n; clear hk1 hf1) | (go_at_call 18; (with_reducible refine (sync_calls _ _ _ _ (top_paint _ _ 3) (HKb.out.paint 3) HOb.out.ok).mono ?_); rintro e w1 ⟨rfl, hk1, hf1⟩; have HKb_n := Aside0.mk (hk1); have HKa_n := Aside0.mk (HKa.out.apart hf1 (by decide)); have HKs_n := Aside0.mk (HKs.out.apart hf1 (by decide)); have HKc_n := Aside0.mk (HKc.out.apart hf1 (by decide)); have F_n := Aside0.mk (F.out.trans (FS.base hf1 C.out (by decide))); have C_n := Aside0.mk (C.out.paint 3 F.out.size); have HOb_n := Aside0.mk (okOf hk1 (ok_sync HOb.out)); clear HKb HKa HKs HKc F C HOb; have HKb := HKb_n; have HKa := HKa_n; have HKs := HKs_n; have HKc := HKc_n; have F := F_n; have C := C_n; have HOb := HOb_n; clear HKb_n HKa_n HKs_n HKc_n F_n C_n HOb_n; clear hk1 hf1))
            have he1 := all_same HL.out HOD.out.ok
            rw [he1] at HKa HOa
            have hz : ∀ i : Int, 0 ≤ i → i < 6 → readS (crashD 1 (fun _ => 0) d) i = readS d1 i := fun i h0 h1 => by
              rw [none_same HL.out i h0 h1, HSF.out, clean_read HL0.out HRW.out i h0 h1]
            have hl3 := live_sync HL.out
            have hl4 : Live 6 (crashD 1 (fun _ => 0) d) := live_crash HL.out
            clear hsm he1
            generalize syncD d = d3 at *
            generalize crashD 1 (fun _ => 0) d = d4 at *
            have HZ := Aside0.mk hz; have HL3 := Aside0.mk hl3; have HL4 := Aside0.mk hl4
            clear hz hl3 hl4
            obtain ⟨S1, HKa⟩ : ∃ S, Aside0 (DK w1 S ga d3) := ⟨_, HKa⟩
            obtain ⟨S2, HKs⟩ : ∃ S, Aside0 (DK w1 S gs d1) := ⟨_, HKs⟩
            obtain ⟨S3, HKb⟩ : ∃ S, Aside0 (DK w1 S gb d3) := ⟨_, HKb⟩
            obtain ⟨S4, HKc⟩ : ∃ S, Aside0 (DK w1 S gc d4) := ⟨_, HKc⟩
            clear C HGb HGc HNE HOD
            go_upto_region 21 with (fail)
            go_loopw [96] (fun v wr => ∃ (k : Nat), v = .int .i64 k ∧ Aside0 (k ≤ 6) ∧ Aside0 (DK wr S1 ga d3) ∧ Aside0 (DK wr S2 gs d1) ∧ Aside0 (DK wr S3 gb d3) ∧ Aside0 (DK wr S4 gc d4) ∧ Aside0 (FS (fun x => w.heap.size ≤ x) w wr)) (fun v _ => 6 - (intOf v).toNat)
            case atStart => exact ⟨0, rfl, ⟨by omega⟩, HKa, HKs, HKb, HKc, F⟩
            case round =>
              clear HKa HKs HKb HKc F
              obtain ⟨k, rfl, K, HKa, HKs, HKb, HKc, F⟩ := hrel
              by_cases hlt : k < 6
              · have h1 : (k : Int) < 6 := by omega
                have h0 : (0 : Int) ≤ (k : Int) := by omega
                have hwk : wrap64 ((k : Int) + 1) = ((k + 1 : Nat) : Int) := by unfold wrap64; omega
                have ES := live_readE HL0.out (k : Int) h0 h1
                have EZ := HZ.out (k : Int) h0 h1
                have HLT := Aside0.mk hlt
                clear hlt h0
                go_wp2_with (first | (go_at_call 19; (with_reducible refine (read_calls _ _ _ _ _ HKa.out HOa.out.ok).mono ?_); rintro e w1 ⟨rfl, hb1⟩; have HKa_n := Aside0.mk (HKa.out.below hb1); have HKs_n := Aside0.mk (HKs.out.below hb1); have HKb_n := Aside0.mk (HKb.out.below hb1); have HKc_n := Aside0.mk (HKc.out.below hb1); have F_n := Aside0.mk (F.out.below hb1); clear HKa HKs HKb HKc F; have HKa := HKa_n; have HKs := HKs_n; have HKb := HKb_n; have HKc := HKc_n; have F := F_n; clear HKa_n HKs_n HKb_n HKc_n F_n; clear hb1) | (go_at_call 19; (with_reducible refine (read_calls _ _ _ _ _ HKb.out HOb.out.ok).mono ?_); rintro e w1 ⟨rfl, hb1⟩; have HKa_n := Aside0.mk (HKa.out.below hb1); have HKs_n := Aside0.mk (HKs.out.below hb1); have HKb_n := Aside0.mk (HKb.out.below hb1); have HKc_n := Aside0.mk (HKc.out.below hb1); have F_n := Aside0.mk (F.out.below hb1); clear HKa HKs HKb HKc F; have HKa := HKa_n; have HKs := HKs_n; have HKb := HKb_n; have HKc := HKc_n; have F := F_n; clear HKa_n HKs_n HKb_n HKc_n F_n; clear hb1) | (go_at_call 19; (with_reducible refine (read_calls _ _ _ _ _ HKc.out HOc.out.ok).mono ?_); rintro e w1 ⟨rfl, hb1⟩; have HKa_n := Aside0.mk (HKa.out.below hb1); have HKs_n := Aside0.mk (HKs.out.below hb1); have HKb_n := Aside0.mk (HKb.out.below hb1); have HKc_n := Aside0.mk (HKc.out.below hb1); have F_n := Aside0.mk (F.out.below hb1); clear HKa HKs HKb HKc F; have HKa := HKa_n; have HKs := HKs_n; have HKb := HKb_n; have HKc := HKc_n; have F := F_n; clear HKa_n HKs_n HKb_n HKc_n F_n; clear hb1) | (go_at_call 19; (with_reducible refine (read_calls _ _ _ _ _ HKs.out HOs.out.ok).mono ?_); rintro e w1 ⟨rfl, hb1⟩; have HKa_n := Aside0.mk (HKa.out.below hb1); have HKs_n := Aside0.mk (HKs.out.below hb1); have HKb_n := Aside0.mk (HKb.out.below hb1); have HKc_n := Aside0.mk (HKc.out.below hb1); have F_n := Aside0.mk (F.out.below hb1); clear HKa HKs HKb HKc F; have HKa := HKa_n; have HKs := HKs_n; have HKb := HKb_n; have HKc := HKc_n; have F := F_n; clear HKa_n HKs_n HKb_n HKc_n F_n; clear hb1))
                go_roundw
                case rel => exact ⟨k + 1, by first | rw [hwk] | go_num, ⟨by have := HLT.out; omega⟩, HKa, HKs, HKb, HKc, F⟩
                case measure =>
                  try rw [hwk]
                  have := HLT.out
                  simp [intOf]; omega
              · obtain rfl : k = 6 := by have := K.out; omega
                clear hlt
                go_wp2
                go_ret
                exact ⟨rfl, FS.up F.out (Nat.le_refl _)⟩
open Classical in
noncomputable def careenlaw03_DiskAll.f (l0 l1 : List S31) : Option Bool := if OkOps l0 ∧ OkOps l1 then some true else none
theorem careenlaw03_DiskAll.calls (A0 : Option Addr) (c0 : Nat) (l0 : List (S31)) (A1 : Option Addr) (c1 : Nat) (l1 : List (S31)) (r : Bool) (w : World) (hr0 : Kd.C k31 w A0 l0.length l0) (hc0 : l0.length ≤ c0) (hr1 : Kd.C k31 w A1 l1.length l1) (hc1 : l1.length ≤ c1) (h : careenlaw03_DiskAll.f l0 l1 = some r) :
    Calls Try.prog 6 #[.slice A0 l0.length c0, .slice A1 l1.length c1] w fun e w' => e = .returned (.bool r) ∧ Below w.heap.size w w' := by
  unfold careenlaw03_DiskAll.f at h
  by_cases ho : OkOps l0 ∧ OkOps l1
  · rw [if_pos ho] at h
    obtain rfl := Option.some.inj h
    exact all_walk A0 c0 l0 A1 c1 l1 w hr0 ho.1 hr1 ho.2
  · rw [if_neg ho] at h
    cases h
end Go.Proofs.Ytbdfdfahpdilpaa.X3
