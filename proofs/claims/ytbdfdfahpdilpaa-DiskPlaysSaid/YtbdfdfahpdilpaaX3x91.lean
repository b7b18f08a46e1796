import Derived.Test.YtbdfdfahpdilpaaX3x90
/-! Layer 3: laws. -/
namespace Go.Proofs.Ytbdfdfahpdilpaa.X3
open Go Go.RowKit Go.ChangeMaps Go.Proofs.Ytbdfdfahpdilpaa.Arr Go.Proofs.Ytbdfdfahpdilpaa.Mp Go.Proofs.Ytbdfdfahpdilpaa.Ow Go.Proofs.Ytbdfdfahpdilpaa.Dk Go.Proofs.YtbdfdfahpdilpaaW.PrintWords Go.Proofs.YtbdfdfahpdilpaaW.PrintLast Go.Proofs.YtbdfdfahpdilpaaW.PrintMore
set_option linter.unusedVariables false
set_option linter.unusedSimpArgs false
/-- The disk has power, no fuse, and n sectors. -/
def Live (n : Nat) (d : DS) : Prop := d.gone = false ∧ d.fuse = -1 ∧ d.safe.length = n
theorem live_new (n : Nat) : Live n (newD n) := ⟨rfl, rfl, by simp [newD]⟩
theorem live_bears {n : Nat} {d : DS} (h : Live n d) : bearsD d = d ∧ bearsE d = 0 := by
  obtain ⟨h1, h2, h3⟩ := h
  refine ⟨?_, ?_⟩
  · simp [bearsD, h1, h2]
  · simp [bearsE, h1, h2]
theorem live_write {n : Nat} {d : DS} (i : Int) (s : ByteArray) (h : Live n d) : Live n (writeD d i s) := by
  unfold writeD
  rw [(live_bears h).1, (live_bears h).2]
  split
  · exact h
  · split
    · exact h
    · split
      · exact h
      · exact h
theorem live_sync {n : Nat} {d : DS} (h : Live n d) : Live n (syncD d) := by
  unfold syncD
  rw [(live_bears h).1, (live_bears h).2]
  split
  · exact h
  · obtain ⟨h1, h2, h3⟩ := h
    exact ⟨h1, h2, by simpa [settleD, over_length] using h3⟩
theorem live_there {n : Nat} {d : DS} (h : Live n d) (i : Int) (h0 : 0 ≤ i) (h1 : i < n) : thereD d i = true := by
  unfold thereD
  rw [h.2.2, decide_eq_true h0, decide_eq_true h1]
  rfl
theorem live_writeE {n : Nat} {d : DS} (h : Live n d) (i : Int) (s : ByteArray) (hs : s.size = 128) (h0 : 0 ≤ i) (h1 : i < n) : writeE d i s = 0 := by
  unfold writeE
  rw [live_there h i h0 h1, (live_bears h).2, hs]
  simp
theorem live_writeD {n : Nat} {d : DS} (h : Live n d) (i : Int) (s : ByteArray) (hs : s.size = 128) (h0 : 0 ≤ i) (h1 : i < n) : writeD d i s = pushD d i s := by
  unfold writeD
  rw [live_there h i h0 h1, (live_bears h).2, hs, (live_bears h).1]
  simp
theorem live_readE {n : Nat} {d : DS} (h : Live n d) (i : Int) (h0 : 0 ≤ i) (h1 : i < n) : readE d i = 0 := by
  unfold readE
  rw [live_there h i h0 h1, h.1]
  simp
theorem live_readS {n : Nat} {d : DS} (h : Live n d) (i : Int) (h0 : 0 ≤ i) (h1 : i < n) : readS d i = (lastOf d.row i).getD ((d.safe[i.toNat]?).getD ⟨#[]⟩) := by
  unfold readS
  rw [live_readE h i h0 h1]
  simp
theorem live_push {n : Nat} {d : DS} (h : Live n d) (i j : Int) (s : ByteArray) (hs : s.size = 128) (i0 : 0 ≤ i) (i1 : i < n) (j0 : 0 ≤ j) (j1 : j < n) : readS (writeD d i s) j = if j = i then s else readS d j := by
  rw [live_readS (live_write i s h) j j0 j1, live_readS h j j0 j1, live_writeD h i s hs i0 i1]
  show (lastOf (d.row ++ [(i, s)]) j).getD _ = _
  rw [last_push]
  by_cases e : j = i
  · subst e; simp
  · simp only [if_neg e]
    rfl
theorem mod_ok (n : Int) (i : Int) (h0 : 0 < n) (h1 : n < 4294967296) : 0 ≤ wrap64 ((IntKind.u64.wrap i).tmod n) ∧ wrap64 ((IntKind.u64.wrap i).tmod n) < n := by
  have hp : 0 ≤ IntKind.u64.wrap i ∧ IntKind.u64.wrap i < 18446744073709551616 := by constructor <;> simp [IntKind.wrap, IntKind.bits, IntKind.signed] <;> omega
  rw [Int.tmod_eq_emod_of_nonneg hp.1]
  have h2 := Int.emod_nonneg (IntKind.u64.wrap i) (show n ≠ 0 by omega)
  have h3 := Int.emod_lt_of_pos (IntKind.u64.wrap i) h0
  unfold wrap64
  omega
set_option maxHeartbeats 8000000 in
set_option maxRecDepth 20000 in
theorem last_walk (A0 : Option Addr) (c0 : Nat) (l : List S31) (i j : Int) (w : World) (hr : Kd.C k31 w A0 l.length l) (ho : OkOps l) : Calls Try.prog 5 #[.slice A0 l.length c0, .int .i64 i, .int .i64 j] w fun e w' => e = .returned (.bool true) ∧ Below w.heap.size w w' := by
  have hfw : ∀ w, Calls Try.prog 17 #[.int .u8 119] w fun e w' => e = .returned (.string (fullI 119)) ∧ Below w.heap.size w w' := fun w => full_int 119 (by decide) (by decide) w
  have hnew : ∀ w, Calls Try.prog 13 #[.int .i64 6] w fun e w' => ∃ g, w.heap.size ≤ g ∧ e = .returned (.tuple #[.pointer (some ⟨g, 0, none⟩), .int .i64 0]) ∧ DK w' (fun k => w.heap.size ≤ k) g (newD 6) ∧ Below w.heap.size w w' := fun w => new_calls 6 (by decide) (by decide) w
  have hm := Kd.C_max hr
  have HR := Aside0.mk hr; clear hr
  have HOPS := Aside0.mk ho; clear ho
  go_enter Try.func5, Try.ntmps5
  go_upto_region 2 with (go_at_call 13; (with_reducible refine (hnew _).mono ?_); rintro e w1 ⟨g, hge, rfl, hk1, hb1⟩; have HK := Aside0.mk hk1; have F := Aside0.mk (FS.of_below hb1); have HGE := Aside0.mk hge; clear hk1 hb1 hge)
  have HS := Aside0.mk (show Top (fun k => w.heap.size ≤ k) w from fun _ h => h)
  go_upto_region 3 with (fail)
  have hi := mod_ok 6 i (by decide) (by decide)
  have hj := mod_ok 6 j (by decide) (by decide)
  generalize wrap64 ((IntKind.u64.wrap i).tmod 6) = i' at *
  generalize wrap64 ((IntKind.u64.wrap j).tmod 6) = j' at *
  have HI := Aside0.mk hi; have HJ := Aside0.mk hj; clear hi hj
  cases hlg : longF l with
  | true =>
    go_wp2_with (first | (go_at_call 14; (with_reducible refine (awake_calls _).mono ?_); rintro e w1 ⟨rfl, hb1⟩; have n1_ := Aside0.mk (HK.out.below hb1); have n2_ := Aside0.mk (F.out.below hb1); clear HK F hb1; have HK := n1_; have F := n2_; clear n1_ n2_) | (go_at_call 15; ((with_reducible refine (long_calls _ _ _ _ (Kd.C_below HR.out (FS.up F.out (Nat.le_refl _)))).mono ?_); rintro e w1 ⟨rfl, hb1⟩; have n1_ := Aside0.mk (HK.out.below hb1); have n2_ := Aside0.mk (F.out.below hb1); clear HK F hb1; have HK := n1_; have F := n2_; clear n1_ n2_)))
    go_ret
    exact ⟨rfl, FS.up F.out (Nat.le_refl _)⟩
  | false =>
    have h300 := Aside0.mk (show l.length ≤ 300 from by
      have := hlg
      unfold longF at this
      simp only [Bool.or_eq_false_iff, decide_eq_false_iff_not] at this
      omega)
    go_upto_region 6 with (first | (go_at_call 14; (with_reducible refine (awake_calls _).mono ?_); rintro e w1 ⟨rfl, hb1⟩; have n1_ := Aside0.mk (HK.out.below hb1); have n2_ := Aside0.mk (F.out.below hb1); clear HK F hb1; have HK := n1_; have F := n2_; clear n1_ n2_) | (go_at_call 15; ((with_reducible refine (long_calls _ _ _ _ (Kd.C_below HR.out (FS.up F.out (Nat.le_refl _)))).mono ?_); rintro e w1 ⟨rfl, hb1⟩; have n1_ := Aside0.mk (HK.out.below hb1); have n2_ := Aside0.mk (F.out.below hb1); clear HK F hb1; have HK := n1_; have F := n2_; clear n1_ n2_)))
    clear hlg
    go_loopw [46] (fun v wr => ∃ (k : Nat) (d : DS), v = .int .i64 k ∧ Aside0 (k ≤ l.length) ∧ Aside0 (DK wr (fun x => w.heap.size ≤ x) g d) ∧ Aside0 (FS (fun x => w.heap.size ≤ x) w wr) ∧ Aside0 (OkN k d) ∧ Aside0 (Live 6 d)) (fun v _ => l.length - (intOf v).toNat)
    case atStart => exact ⟨0, newD 6, rfl, ⟨by omega⟩, HK, F, ⟨ok_new 6 (by decide)⟩, ⟨live_new 6⟩⟩
    case round =>
      clear HK F
      obtain ⟨k, d, rfl, K, HK, F, HO, HL⟩ := hrel
      by_cases hlt : k < l.length
      · have h1 : (k : Int) < (l.length : Int) := by omega
        have hwk : wrap64 ((k : Int) + 1) = ((k + 1 : Nat) : Int) := by unfold wrap64; omega
        have HLT := Aside0.mk hlt
        obtain ⟨ad, A4, c4, rfl, q0, q1, q2, q3, q4, hl4, hC4⟩ := at_T31 (Kd.C_below HR.out (FS.up F.out (Nat.le_refl _))) (k : Int) (by omega) h1
        rw [Int.toNat_natCast] at q0 q1 q2 q3 q4
        have HOP := Aside0.mk (HOPS.out _ (rd_mem hlt))
        clear hl4 hC4
        generalize rd_T31 l (k : Nat) = o_ at *
        go_upto_region 8 with (fail)
        have hta := heap_alloc_new wr (.cells #[.int .i64 o_.f0, .int .i64 o_.f1, .int .i64 o_.f2, .int .u8 o_.f3, .slice A4 o_.f4.length c4] 31)
        have n1_ := Aside0.mk (HK.out.below ((Below.refl wr.heap.size wr).alloc (Nat.le_refl _) (.cells #[.int .i64 o_.f0, .int .i64 o_.f1, .int .i64 o_.f2, .int .u8 o_.f3, .slice A4 o_.f4.length c4] 31)))
        have n2_ := Aside0.mk (F.out.alloc (.cells #[.int .i64 o_.f0, .int .i64 o_.f1, .int .i64 o_.f2, .int .u8 o_.f3, .slice A4 o_.f4.length c4] 31))
        clear HK F q0 q1 q2 q3 q4
        generalize wr.alloc (.cells #[.int .i64 o_.f0, .int .i64 o_.f1, .int .i64 o_.f2, .int .u8 o_.f3, .slice A4 o_.f4.length c4] 31) = W at *
        generalize wr.heap.size = ob at *
        have HTA := Aside0.mk hta; have HK := n1_; have F := n2_
        clear hta n1_ n2_
        have q0 : W.cell? ⟨ob, 0, none⟩ = some (.int .i64 o_.f0) := blk_cell HTA.out 0
        by_cases hk2 : o_.f0 = 2
        · clear q0
          have q0 : W.cell? ⟨ob, 0, none⟩ = some (.int .i64 2) := hk2 ▸ blk_cell HTA.out 0
          clear hk2
          go_wp2_with (go_at_call 18; (with_reducible refine (sync_calls _ _ _ _ (HS.out.next F.out.size) HK.out HO.out.ok).mono ?_); rintro e w1 ⟨rfl, hk1, hf1⟩; have n1_ := Aside0.mk hk1; have n2_ := Aside0.mk (F.out.trans hf1); have n3_ := Aside0.mk (okOf hk1 (ok_sync HO.out)); clear HK F HO hk1 hf1; have HK := n1_; have F := n2_; have HO := n3_; clear n1_ n2_ n3_)
          go_roundw
          case rel => exact ⟨k + 1, syncD d, by first | rw [hwk] | go_num, ⟨by have := HLT.out; omega⟩, HK, F, ⟨HO.out.mono (by omega)⟩, ⟨live_sync HL.out⟩⟩
          case measure =>
            try rw [hwk]
            have := HLT.out
            simp [intOf]; omega
        · go_upto_region 10 with (fail)
          have q1 : W.drew.cell? ⟨ob, 1, none⟩ = some (.int .i64 o_.f1) := blk_cell (w := W.drew) HTA.out 1
          have q3 : W.drew.cell? ⟨ob, 3, none⟩ = some (.int .u8 o_.f3) := blk_cell (w := W.drew) HTA.out 3
          have HK2 := Aside0.mk HK.out.drew; have F2 := Aside0.mk F.out.drew
          clear HK F
          refine start_ (n := 10) (S := fun w' => w'.cell? ⟨ob, 1, none⟩ = some (.int .i64 o_.f1) ∧ w'.cell? ⟨ob, 3, none⟩ = some (.int .u8 o_.f3)) (ds := [9]) #[false, false, false, false, false, false, false, false, false, false] (by kernel_rfl) rfl rfl ⟨q1, q3⟩ (fun hHeld => ?_)
          refine pure_ (i := 0) (N := some 55) (v := ?_) (a' := ?_) #[true, false, false, false, false, false, false, false, false, false] rfl rfl (by kernel_rfl) (fun _ _ _ h => h) (Or.inl ⟨by kernel_rfl, ?_⟩) ?_ ?_
          rotate_left
          · intro w'
            go_simp
            with_reducible rfl
          rotate_left
          · simp only [Act.put, List.setIfInBounds_toArray, List.set_cons_zero, List.set_cons_succ, i64_w, i32_w]
            rfl
          refine pure_ (i := 1) (N := some 56) (v := ?_) (a' := ?_) #[true, true, false, false, false, false, false, false, false, false] rfl rfl (by kernel_rfl) (fun _ _ _ h => h) (Or.inl ⟨by kernel_rfl, ?_⟩) ?_ ?_
          rotate_left
          · intro w'
            go_simp
            with_reducible rfl
          rotate_left
          · simp only [Act.put, List.setIfInBounds_toArray, List.set_cons_zero, List.set_cons_succ, i64_w, i32_w]
            rfl
          refine pure_ (i := 6) (N := some 61) (v := ?_) (a' := ?_) #[true, true, false, false, false, false, true, false, false, false] rfl rfl (by kernel_rfl) (fun _ _ _ h => h) (Or.inl ⟨by kernel_rfl, ?_⟩) ?_ ?_
          rotate_left
          · intro w'
            go_simp
            with_reducible rfl
          rotate_left
          · simp only [Act.put, List.setIfInBounds_toArray, List.set_cons_zero, List.set_cons_succ, i64_w, i32_w]
            rfl
          refine take_ (i := 2) (N := some 57) (v := ?_) (a' := ?_) #[true, true, true, false, false, false, true, false, false, false] rfl rfl (by kernel_rfl) (fun _ _ _ h => h) (Or.inl ⟨by kernel_rfl, ?_⟩) hHeld ?_ ?_
          rotate_left
          · rintro w' ⟨s0_, s1_⟩
            go_simp
            with_reducible rfl
          rotate_left
          · simp only [Act.put, List.setIfInBounds_toArray, List.set_cons_zero, List.set_cons_succ, i64_w, i32_w]
            rfl
          refine pure_ (i := 3) (N := some 58) (v := ?_) (a' := ?_) #[true, true, true, true, false, false, true, false, false, false] rfl rfl (by kernel_rfl) (fun _ _ _ h => h) (Or.inl ⟨by kernel_rfl, ?_⟩) ?_ ?_
          rotate_left
          · intro w'
            go_simp
            with_reducible rfl
          rotate_left
          · simp only [Act.put, List.setIfInBounds_toArray, List.set_cons_zero, List.set_cons_succ, i64_w, i32_w]
            rfl
          refine pure_ (i := 4) (N := some 59) (v := ?_) (a' := ?_) #[true, true, true, true, true, false, true, false, false, false] rfl rfl (by kernel_rfl) (fun _ _ _ h => h) (Or.inl ⟨by kernel_rfl, ?_⟩) ?_ ?_
          rotate_left
          · intro w'
            go_simp
            with_reducible rfl
          rotate_left
          · simp only [Act.put, List.setIfInBounds_toArray, List.set_cons_zero, List.set_cons_succ, i64_w, i32_w]
            rfl
          refine pure_ (i := 5) (N := some 60) (v := ?_) (a' := ?_) #[true, true, true, true, true, true, true, false, false, false] rfl rfl (by kernel_rfl) (fun _ _ _ h => h) (Or.inl ⟨by kernel_rfl, ?_⟩) ?_ ?_
          rotate_left
          · intro w'
            go_simp
            with_reducible rfl
          rotate_left
          · simp only [Act.put, List.setIfInBounds_toArray, List.set_cons_zero, List.set_cons_succ, i64_w, i32_w]
            rfl
          refine take_ (i := 7) (N := some 62) (v := ?_) (a' := ?_) #[true, true, true, true, true, true, true, true, false, false] rfl rfl (by kernel_rfl) (fun _ _ _ h => h) (Or.inl ⟨by kernel_rfl, ?_⟩) hHeld ?_ ?_
          rotate_left
          · rintro w' ⟨s0_, s1_⟩
            go_simp
            with_reducible rfl
          rotate_left
          · simp only [Act.put, List.setIfInBounds_toArray, List.set_cons_zero, List.set_cons_succ, i64_w, i32_w]
            rfl
          refine one_ (i := 8) (N := some 63) #[true, true, true, true, true, true, true, true, true, false] rfl rfl (by kernel_rfl) (by decide) (fun K hK => ?_)
          refine goes_ Try.func17 (by kernel_rfl) rfl #[.int .u8 o_.f3] (by rfl) rfl rfl (by (try simp only [List.map_toArray, List.map_cons, List.map_nil]); first | done | rfl) ?_
          refine (full_int _ HOP.out.2.2.2.1.1 HOP.out.2.2.2.1.2 _).mono ?_
          rintro e v1_ ⟨rfl, hb1⟩
          refine ⟨_, rfl, ?_⟩
          have HK3 := Aside0.mk (HK2.out.below hb1)
          have F3 := Aside0.mk (F2.out.below hb1)
          refine hK _ _ ⟨pw_cell_below hb1 hHeld.1, pw_cell_below hb1 hHeld.2⟩ (fun hHeld => ?_)
          clear hK K hb1 HK2 F2
          refine norm_ (a' := ?_) ?_ ?_
          rotate_left
          · show Act.put _ (some 63) _ = _
            simp only [Act.put, List.setIfInBounds_toArray, List.set_cons_zero, List.set_cons_succ, i64_w, i32_w]
            rfl
          refine last_ (i := 9) (N := some 64) #[true, true, true, true, true, true, true, true, true, true] rfl rfl (by kernel_rfl) (by decide) (fun K hK => ?_)
          refine goes_ Try.func16 (by kernel_rfl) rfl #[.pointer (some ⟨g, 0, none⟩), .int .i64 (wrap64 ((IntKind.u64.wrap o_.f1).tmod 6)), .string (fullI o_.f3)] (by rfl) rfl rfl (by (try simp only [List.map_toArray, List.map_cons, List.map_nil]); first | done | rfl) ?_
          refine (write_calls _ _ _ _ _ _ (HS.out.next F3.out.size) HK3.out HO.out.ok).mono ?_
          rintro e v2_ ⟨rfl, hk1, hf1⟩
          refine ⟨_, rfl, ?_⟩
          have HK := Aside0.mk hk1; have F := Aside0.mk (F3.out.trans hf1)
          refine hK _ _ ?_
          clear hK K hk1 hf1 HK3 F3
          refine norm_ (a' := ?_) ?_ ?_
          rotate_left
          · show Act.put _ (some 64) _ = _
            simp only [Act.put, List.setIfInBounds_toArray, List.set_cons_zero, List.set_cons_succ, i64_w, i32_w]
            rfl
          refine done_ (by kernel_rfl) ?_
          simp only [Exit.inBlock, Exit.then]
          go_wp2
          (try simp only [hwk])
          go_roundw
          case rel => exact ⟨k + 1, _, by first | rfl | go_num, ⟨by have := HLT.out; omega⟩, HK, F, ⟨ok_write HO.out (by have := HLT.out; have := h300.out; omega)⟩, ⟨live_write _ _ HL.out⟩⟩
          case measure =>
            have := HLT.out
            show l.length - (intOf (.int .i64 ((k + 1 : Nat) : Int))).toNat < l.length - (intOf (.int .i64 (k : Int))).toNat
            simp only [intOf]; omega
      · obtain rfl : k = l.length := by have := K.out; omega
        clear hlt
        have HO2 := Aside0.mk (HO.out.mono (n' := 1000) (by have := h300.out; omega)); clear HO; have HO := HO2; clear HO2
        have EW := live_writeE HL.out i' (fullI 119) (fullI_size _) HI.out.1 HI.out.2
        have ER := live_readE (live_write i' (fullI 119) HL.out) i' HI.out.1 HI.out.2
        have EJ := live_readE (live_write i' (fullI 119) HL.out) j' HJ.out.1 HJ.out.2
        have ES := live_push HL.out i' i' (fullI 119) (fullI_size _) HI.out.1 HI.out.2 HI.out.1 HI.out.2
        have ET := live_push HL.out i' j' (fullI 119) (fullI_size _) HI.out.1 HI.out.2 HJ.out.1 HJ.out.2
        rw [if_pos rfl] at ES
        by_cases hij : j' = i'
        · subst hij
          clear ET
          go_wp2_with (first | (go_at_call 19; (with_reducible refine (read_calls _ _ _ _ _ HK.out HO.out.ok).mono ?_); rintro e w1 ⟨rfl, hb1⟩; have n1_ := Aside0.mk (HK.out.below hb1); have n2_ := Aside0.mk (F.out.below hb1); clear HK F hb1; have HK := n1_; have F := n2_; clear n1_ n2_) | (go_at_call 16; (with_reducible refine (write_calls _ _ _ _ _ _ (HS.out.next F.out.size) HK.out HO.out.ok).mono ?_); rintro e w1 ⟨rfl, hk1, hf1⟩; have n1_ := Aside0.mk hk1; have n2_ := Aside0.mk (F.out.trans hf1); have n3_ := Aside0.mk (okOf hk1 (ok_write HO.out (by decide))); clear HK F HO hk1 hf1; have HK := n1_; have F := n2_; have HO := n3_; clear n1_ n2_ n3_) | (go_at_call 17; (with_reducible refine (hfw _).mono ?_); rintro e w1 ⟨rfl, hb1⟩; have n1_ := Aside0.mk (HK.out.below hb1); have n2_ := Aside0.mk (F.out.below hb1); clear HK F hb1; have HK := n1_; have F := n2_; clear n1_ n2_))
          go_ret
          exact ⟨rfl, FS.up F.out (Nat.le_refl _)⟩
        · rw [if_neg hij] at ET
          have hij2 : (i' == j') = false := by simp; omega
          clear hij
          go_wp2_with (first | (go_at_call 19; (with_reducible refine (read_calls _ _ _ _ _ HK.out HO.out.ok).mono ?_); rintro e w1 ⟨rfl, hb1⟩; have n1_ := Aside0.mk (HK.out.below hb1); have n2_ := Aside0.mk (F.out.below hb1); clear HK F hb1; have HK := n1_; have F := n2_; clear n1_ n2_) | (go_at_call 16; (with_reducible refine (write_calls _ _ _ _ _ _ (HS.out.next F.out.size) HK.out HO.out.ok).mono ?_); rintro e w1 ⟨rfl, hk1, hf1⟩; have n1_ := Aside0.mk hk1; have n2_ := Aside0.mk (F.out.trans hf1); have n3_ := Aside0.mk (okOf hk1 (ok_write HO.out (by decide))); clear HK F HO hk1 hf1; have HK := n1_; have F := n2_; have HO := n3_; clear n1_ n2_ n3_) | (go_at_call 17; (with_reducible refine (hfw _).mono ?_); rintro e w1 ⟨rfl, hb1⟩; have n1_ := Aside0.mk (HK.out.below hb1); have n2_ := Aside0.mk (F.out.below hb1); clear HK F hb1; have HK := n1_; have F := n2_; clear n1_ n2_))
          go_ret
          exact ⟨rfl, FS.up F.out (Nat.le_refl _)⟩
open Classical in
noncomputable def careenlaw03_DiskLast.f (l0 : List S31) (a1 a2 : Int) : Option Bool := if OkOps l0 then some true else none
theorem careenlaw03_DiskLast.calls (A0 : Option Addr) (c0 : Nat) (l0 : List (S31)) (a1 a2 : Int) (r : Bool) (w : World) (hr0 : Kd.C k31 w A0 l0.length l0) (hc0 : l0.length ≤ c0) (h : careenlaw03_DiskLast.f l0 a1 a2 = some r) :
    Calls Try.prog 5 #[.slice A0 l0.length c0, .int .i64 a1, .int .i64 a2] w fun e w' => e = .returned (.bool r) ∧ Below w.heap.size w w' := by
  unfold careenlaw03_DiskLast.f at h
  by_cases ho : OkOps l0
  · rw [if_pos ho] at h
    obtain rfl := Option.some.inj h
    exact last_walk A0 c0 l0 a1 a2 w hr0 ho
  · rw [if_neg ho] at h
    cases h
end Go.Proofs.Ytbdfdfahpdilpaa.X3
