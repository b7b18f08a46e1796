import Derived.Test.YtbdfdfahpdilpaaM6
/-! Layer 12: MasterTurns. -/
namespace Go.Proofs.Ytbdfdfahpdilpaa.X12
open Go Go.RowKit Go.ChangeMaps Go.Proofs.Ytbdfdfahpdilpaa.Arr Go.Proofs.Ytbdfdfahpdilpaa.Mp Go.Proofs.Ytbdfdfahpdilpaa.Ow Go.Proofs.Ytbdfdfahpdilpaa.Dk Go.Proofs.Ytbdfdfahpdilpaa.Slab Go.Proofs.Ytbdfdfahpdilpaa.Lv Go.Proofs.YtbdfdfahpdilpaaW.PrintWords Go.Proofs.YtbdfdfahpdilpaaW.PrintLast Go.Proofs.YtbdfdfahpdilpaaW.PrintMore
set_option linter.unusedVariables false
set_option linter.unusedSimpArgs false
set_option maxHeartbeats 16000000 in
set_option maxRecDepth 20000 in
theorem turns_walk (A0 : Option Addr) (c0 : Nat) (l : List S61) (w : World) (hr : Kd.C k61 w A0 l.length l) : Calls Try.prog 10 #[.slice A0 l.length c0] w fun e w' => e = .returned (.bool true) ∧ Below w.heap.size w w' := by
  have hnew : ∀ w, Calls Try.prog 13 #[.int .i64 2] w fun e w' => ∃ g, w.heap.size ≤ g ∧ e = .returned (.tuple #[.pointer (some ⟨g, 0, none⟩), .int .i64 0]) ∧ DK w' (fun k => w.heap.size ≤ k) g (LD (noughts 128) (noughts 128)) ∧ Below w.heap.size w w' := fun w => new_calls 2 (by decide) (by decide) w
  have hWr : ∀ w S g s0 s1 t c l, Top S w → DK w S g (LD s0 s1) → 0 ≤ t ∧ t < 4294967296 → mayM c l = true → Calls Try.prog 35 #[.pointer (some ⟨g, 0, none⟩), .int .i64 0, .int .u32 t, .agg #[.int .i64 c, .int .i64 l]] w fun e w' => e = .returned (.int .i64 0) ∧ DK w' S g (LDput s0 s1 (t % 2) (secM t c l)) ∧ FS S w w' := fun w S g s0 s1 t c l ht hk h1 h2 => by
    have h := mwrite_calls _ g 0 t c l S w ht hk (LD_ok _ _) (by decide) h1
    rw [(LD_write s0 s1 h1 h2).1, (LD_write s0 s1 h1 h2).2] at h
    exact h
  have hRd : ∀ w S g s0 s1 c l t f, DK w S g (LD s0 s1) → stepM (stepM ⟨0, 1, 0, false⟩ (oneB s0)) (oneB s1) = ⟨c, l, t, f⟩ → Calls Try.prog 33 #[.pointer (some ⟨g, 0, none⟩), .int .i64 0] w fun e w' => e = .returned (.tuple #[.agg #[.int .i64 c, .int .i64 l], .int .u32 t, .int .i64 0]) ∧ Below w.heap.size w w' := fun w S g s0 s1 c l t f hk hs => by
    have h := mread_calls (LD s0 s1) g 0 S w hk (LD_ok _ _).ok
    rw [LD_fold, hs] at h
    exact h
  have hS0 : ∀ w S g s0 s1, DK w S g (LD s0 s1) → Calls Try.prog 19 #[.pointer (some ⟨g, 0, none⟩), .int .i64 0] w fun e w' => e = .returned (.tuple #[.string s0, .int .i64 0]) ∧ Below w.heap.size w w' := fun w S g s0 s1 hk => read_calls (LD s0 s1) g 0 S w hk (LD_ok _ _).ok
  have hS1 : ∀ w S g s0 s1, DK w S g (LD s0 s1) → Calls Try.prog 19 #[.pointer (some ⟨g, 0, none⟩), .int .i64 1] w fun e w' => e = .returned (.tuple #[.string s1, .int .i64 0]) ∧ Below w.heap.size w w' := fun w S g s0 s1 hk => read_calls (LD s0 s1) g 1 S w hk (LD_ok _ _).ok
  have HWR := Aside0.mk hWr; have HRD := Aside0.mk hRd; have HSE0 := Aside0.mk hS0; have HSE1 := Aside0.mk hS1
  clear hWr hRd hS0 hS1
  have hm := Kd.C_max hr
  have HR := Aside0.mk hr; clear hr
  go_enter Try.func10, Try.ntmps10
  go_upto_region 2 with (go_at_call 13; (with_reducible refine (hnew _).mono ?_); rintro e w1 ⟨ga, hge, rfl, hk1, hb1⟩; have HKa := Aside0.mk (hk1.fresh (fun _ => 0) 1); have C := Aside0.mk (olds_paint0 w.heap.size w.heap.size 1 (Nat.le_refl _)); have F := Aside0.mk (FS.of_below hb1); clear hk1 hb1 hge)
  generalize Dk.paint (fun _ => 0) w.heap.size 1 = cl at *
  by_cases hlong : (100 : Int) < (l.length : Int)
  · go_wp2_with (go_at_call 34; (with_reducible refine (awake12_calls _).mono ?_); rintro e w1 ⟨rfl, hb1⟩; have HKa_n := Aside0.mk (HKa.out.below hb1); have F_n := Aside0.mk (F.out.below hb1); clear HKa F; have HKa := HKa_n; have F := F_n; clear HKa_n F_n; clear hb1)
    go_ret
    exact ⟨rfl, FS.up F.out (Nat.le_refl _)⟩
  · have h100 := Aside0.mk (show l.length ≤ 100 by omega)
    go_upto_region 6 with (go_at_call 34; (with_reducible refine (awake12_calls _).mono ?_); rintro e w1 ⟨rfl, hb1⟩; have HKa_n := Aside0.mk (HKa.out.below hb1); have F_n := Aside0.mk (F.out.below hb1); clear HKa F; have HKa := HKa_n; have F := F_n; clear HKa_n F_n; clear hb1)
    clear hlong
    have hB1 := (Below.refl w1.heap.size w1).alloc (Nat.le_refl _) (.cells #[.int .i64 0, .int .i64 1] 61)
    have hB3 := (Below.refl (w1.alloc (.cells #[.int .i64 0, .int .i64 1] 61)).heap.size (w1.alloc (.cells #[.int .i64 0, .int .i64 1] 61))).alloc (Nat.le_refl _) (.cells #[.string ⟨#[]⟩, .string ⟨#[]⟩] 68)
    have hB2 := Arr.below_trans hB1 hB3
    have HM := Aside0.mk (show ((w1.alloc (.cells #[.int .i64 0, .int .i64 1] 61)).alloc (.cells #[.string ⟨#[]⟩, .string ⟨#[]⟩] 68)).heap[w1.heap.size]? = some (.cells #[.int .i64 0, .int .i64 1] 61 (0, 0)) ∧ Dk.paint cl w1.heap.size 2 w1.heap.size = 2 from ⟨blk_below (heap_alloc_new w1 (.cells #[.int .i64 0, .int .i64 1] 61)) hB3, paint_new (Nat.le_refl _)⟩)
    have HW := Aside0.mk (show ((w1.alloc (.cells #[.int .i64 0, .int .i64 1] 61)).alloc (.cells #[.string ⟨#[]⟩, .string ⟨#[]⟩] 68)).heap[w1.heap.size + 1]? = some (.cells #[.string ⟨#[]⟩, .string ⟨#[]⟩] 68 (0, 0)) ∧ Dk.paint cl w1.heap.size 2 (w1.heap.size + 1) = 2 from ⟨by
      have h := heap_alloc_new (w1.alloc (.cells #[.int .i64 0, .int .i64 1] 61)) (.cells #[.string ⟨#[]⟩, .string ⟨#[]⟩] 68)
      have e : (w1.alloc (.cells #[.int .i64 0, .int .i64 1] 61)).heap.size = w1.heap.size + 1 := by simp
      rw [e] at h
      exact h, paint_new (by omega)⟩)
    have HKa_n := Aside0.mk ((HKa.out.paint 2).below hB2); have F_n := Aside0.mk (F.out.below hB2); have C_n := Aside0.mk (C.out.paint 2 F.out.size); have HGM := Aside0.mk F.out.size
    clear HKa F C hB1 hB2 hB3
    have HKa := HKa_n; have F := F_n; have C := C_n; clear HKa_n F_n C_n
    have HMW := Aside0.mk (show w1.heap.size ≠ w1.heap.size + 1 by omega)
    generalize (w1.alloc (.cells #[.int .i64 0, .int .i64 1] 61)).alloc (.cells #[.string ⟨#[]⟩, .string ⟨#[]⟩] 68) = W at *
    generalize hwa : w1.heap.size + 1 = wa at *
    generalize Dk.paint cl w1.heap.size 2 = cl at *
    generalize hwt : w1.heap.size = wt at *
    have HGA := Aside0.mk (show w.heap.size ≤ wa by have := HGM.out; omega)
    clear hwa hwt
    go_upto_region 7 with (fail)
    go_loopw [6, 39] (fun tv v wr => ∃ (k T : Nat) (s0 s1 x0 x1 : ByteArray) (c l' : Int) (cl : Nat → Nat), v = .int .i64 k ∧ tv = .int .u32 (T : Int) ∧ Aside0 (k ≤ l.length) ∧ Aside0 (T ≤ k) ∧ Aside0 (DK wr (Col cl 1) ga (LD s0 s1)) ∧ Aside0 (Olds cl w.heap.size) ∧ Aside0 (FS (fun x => w.heap.size ≤ x) w wr) ∧ Aside0 (wr.heap[wt]? = some (.cells #[.int .i64 c, .int .i64 l'] 61 (0, 0)) ∧ cl wt = 2) ∧ Aside0 (wr.heap[wa]? = some (.cells #[.string x0, .string x1] 68 (0, 0)) ∧ cl wa = 2) ∧ Aside0 (InvT s0 s1 T c l')) (fun _ v _ => l.length - (intOf v).toNat)
    case atStart => exact ⟨0, 0, _, _, _, _, 0, 1, cl, rfl, rfl, ⟨by omega⟩, ⟨by omega⟩, HKa, C, F, HM, HW, ⟨inv_new⟩⟩
    case round =>
      clear HKa C F HM HW
      obtain ⟨k, T, s0, s1, x0, x1, c, l', cl, rfl, rfl, K, TK, HKa, C, F, HM, HW, HI⟩ := hrel
      by_cases hlt : k < l.length
      · have h1 : (k : Int) < (l.length : Int) := by omega
        have hwk : wrap64 ((k : Int) + 1) = ((k + 1 : Nat) : Int) := by unfold wrap64; omega
        have HLT := Aside0.mk hlt
        obtain ⟨ad, rfl, q0, q1⟩ := at_T61 (Kd.C_below HR.out (FS.up F.out (Nat.le_refl _))) (k : Int) (by omega) h1
        rw [Int.toNat_natCast] at q0 q1
        generalize rd_T61 l (k : Nat) = o_ at *
        go_upto_region 9 with (fail)
        have hbb := (Below.refl wr.heap.size wr).alloc (Nat.le_refl _) (.cells #[.int .i64 o_.f0, .int .i64 o_.f1] 61)
        have HP := Aside0.mk (And.intro (heap_alloc_new wr (.cells #[.int .i64 o_.f0, .int .i64 o_.f1] 61)) (c2_new C.out (Nat.le_refl wr.heap.size)))
        have HKa_n := Aside0.mk ((HKa.out.paint 2).below hbb); have F_n := Aside0.mk (F.out.below hbb); have C_n := Aside0.mk (C.out.paint 2 F.out.size); have HM_n := Aside0.mk (And.intro (blk_below HM.out.1 hbb) ((paint_old (x := 2) (blk_lt HM.out.1)).trans HM.out.2)); have HW_n := Aside0.mk (And.intro (blk_below HW.out.1 hbb) ((paint_old (x := 2) (blk_lt HW.out.1)).trans HW.out.2))
        clear HKa F C HM HW q0 q1 hbb
        have HKa := HKa_n; have F := F_n; have C := C_n; have HM := HM_n; have HW := HW_n
        clear HKa_n F_n C_n HM_n HW_n
        generalize wr.alloc (.cells #[.int .i64 o_.f0, .int .i64 o_.f1] 61) = W9 at *
        generalize Dk.paint cl wr.heap.size 2 = cl at *
        generalize wr.heap.size = ob at *
        have p0 : W9.cell? ⟨ob, 0, none⟩ = some (.int .i64 o_.f0) := blk_cell HP.out.1 0
        have p1 : W9.cell? ⟨ob, 1, none⟩ = some (.int .i64 o_.f1) := blk_cell HP.out.1 1
        cases hmay : mayM o_.f0 o_.f1 with
        | false =>
          go_wp2_with (go_at_call 36; (with_reducible refine (refmay_calls _ _ _).mono ?_); rintro e w1 ⟨rfl, hb1⟩; have HKa_n := Aside0.mk (HKa.out.below hb1); have F_n := Aside0.mk (F.out.below hb1); have HM_n := Aside0.mk (And.intro (blk_below HM.out.1 hb1) HM.out.2); have HW_n := Aside0.mk (And.intro (blk_below HW.out.1 hb1) HW.out.2); have HP_n := Aside0.mk (And.intro (blk_below HP.out.1 hb1) HP.out.2); clear HKa F HM HW HP; have HKa := HKa_n; have F := F_n; have HM := HM_n; have HW := HW_n; have HP := HP_n; clear HKa_n F_n HM_n HW_n HP_n; clear hb1)
          go_roundw
          case rel => exact ⟨k + 1, T, s0, s1, x0, x1, c, l', cl, by first | rw [hwk] | go_num, rfl, ⟨HLT.out⟩, ⟨by have := TK.out; omega⟩, HKa, C, F, HM, HW, HI⟩
          case measure =>
            try rw [hwk]
            have := HLT.out
            simp [intOf]; omega
        | true =>
          go_upto_region 11 with (go_at_call 36; (with_reducible refine (refmay_calls _ _ _).mono ?_); rintro e w1 ⟨rfl, hb1⟩; have HKa_n := Aside0.mk (HKa.out.below hb1); have F_n := Aside0.mk (F.out.below hb1); have HM_n := Aside0.mk (And.intro (blk_below HM.out.1 hb1) HM.out.2); have HW_n := Aside0.mk (And.intro (blk_below HW.out.1 hb1) HW.out.2); have HP_n := Aside0.mk (And.intro (blk_below HP.out.1 hb1) HP.out.2); clear HKa F HM HW HP; have HKa := HKa_n; have F := F_n; have HM := HM_n; have HW := HW_n; have HP := HP_n; clear HKa_n F_n HM_n HW_n HP_n; clear hb1)
          have HMAY := Aside0.mk hmay; clear hmay p0 p1
          have HPA := Aside0.mk (show ob ≠ wa from Dk.blk_ne HP.out.1 HW.out.1 (by decide))
          go_loopw [46] (fun v wr => ∃ (j : Nat) (y0 y1 : ByteArray), v = .int .i64 j ∧ Aside0 (j ≤ 2) ∧ Aside0 (DK wr (Col cl 1) ga (LD s0 s1)) ∧ Aside0 (FS (fun x => w.heap.size ≤ x) w wr) ∧ Aside0 (wr.heap[wt]? = some (.cells #[.int .i64 c, .int .i64 l'] 61 (0, 0)) ∧ cl wt = 2) ∧ Aside0 (wr.heap[wa]? = some (.cells #[.string y0, .string y1] 68 (0, 0)) ∧ cl wa = 2) ∧ Aside0 (wr.heap[ob]? = some (.cells #[.int .i64 o_.f0, .int .i64 o_.f1] 61 (0, 0)) ∧ cl ob = 2) ∧ Aside0 ((0 < j → y0 = s0) ∧ (1 < j → y1 = s1))) (fun v _ => 2 - (intOf v).toNat)
          case atStart => exact ⟨0, x0, x1, rfl, ⟨by decide⟩, HKa, F, HM, HW, HP, ⟨⟨fun h => absurd h (by decide), fun h => absurd h (by decide)⟩⟩⟩
          case round =>
            clear HKa F HM HW HP
            obtain ⟨j, y0, y1, rfl, J, HKa, F, HM, HW, HP, HY⟩ := hrel
            rcases (show j = 0 ∨ j = 1 ∨ j = 2 by have := J.out; omega) with rfl | rfl | rfl
            · go_wp2_with (go_at_call 19; (with_reducible refine (HSE0.out _ _ _ _ _ HKa.out).mono ?_); rintro e w1 ⟨rfl, hb1⟩; have HKa_n := Aside0.mk (HKa.out.below hb1); have F_n := Aside0.mk (F.out.below hb1); have HM_n := Aside0.mk (And.intro (blk_below HM.out.1 hb1) HM.out.2); have HW_n := Aside0.mk (And.intro (blk_below HW.out.1 hb1) HW.out.2); have HP_n := Aside0.mk (And.intro (blk_below HP.out.1 hb1) HP.out.2); clear HKa F HM HW HP; have HKa := HKa_n; have F := F_n; have HM := HM_n; have HW := HW_n; have HP := HP_n; clear HKa_n F_n HM_n HW_n HP_n; clear hb1; have cz : w1.cell? ⟨wa, 0, none⟩ = some (.string y0) := blk_cell HW.out.1 0; have fz := blk_frozen HW.out.1 0)
              go_roundw
              case rel => exact ⟨1, s0, y1, rfl, ⟨by decide⟩, ⟨HKa.out.stored HW.out.2 (by decide) 0 _⟩, ⟨F.out.setCell (p := ⟨wa, 0, none⟩) (.inl HGA.out) _⟩, ⟨And.intro (blk_stored HM.out.1 HMW.out 0 _) HM.out.2⟩, ⟨And.intro (set_blk HW.out.1 0 _) HW.out.2⟩, ⟨And.intro (blk_stored HP.out.1 HPA.out 0 _) HP.out.2⟩, ⟨⟨fun _ => rfl, fun h => absurd h (by decide)⟩⟩⟩
              case measure => simp [intOf]
            · have hy0 : y0 = s0 := HY.out.1 (by decide)
              subst hy0
              go_wp2_with (go_at_call 19; (with_reducible refine (HSE1.out _ _ _ _ _ HKa.out).mono ?_); rintro e w1 ⟨rfl, hb1⟩; have HKa_n := Aside0.mk (HKa.out.below hb1); have F_n := Aside0.mk (F.out.below hb1); have HM_n := Aside0.mk (And.intro (blk_below HM.out.1 hb1) HM.out.2); have HW_n := Aside0.mk (And.intro (blk_below HW.out.1 hb1) HW.out.2); have HP_n := Aside0.mk (And.intro (blk_below HP.out.1 hb1) HP.out.2); clear HKa F HM HW HP; have HKa := HKa_n; have F := F_n; have HM := HM_n; have HW := HW_n; have HP := HP_n; clear HKa_n F_n HM_n HW_n HP_n; clear hb1; have cz : w1.cell? ⟨wa, 1, none⟩ = some (.string y1) := blk_cell HW.out.1 1; have fz := blk_frozen HW.out.1 1)
              go_roundw
              case rel => exact ⟨2, y0, s1, rfl, ⟨by decide⟩, ⟨HKa.out.stored HW.out.2 (by decide) 1 _⟩, ⟨F.out.setCell (p := ⟨wa, 1, none⟩) (.inl HGA.out) _⟩, ⟨And.intro (blk_stored HM.out.1 HMW.out 1 _) HM.out.2⟩, ⟨And.intro (set_blk HW.out.1 1 _) HW.out.2⟩, ⟨And.intro (blk_stored HP.out.1 HPA.out 1 _) HP.out.2⟩, ⟨⟨fun _ => rfl, fun _ => rfl⟩⟩⟩
              case measure => simp [intOf]
            · have hy0 : y0 = s0 := HY.out.1 (by decide)
              have hy1 : y1 = s1 := HY.out.2 (by decide)
              subst hy0 hy1
              clear HY J
              have p0 : wr.cell? ⟨ob, 0, none⟩ = some (.int .i64 o_.f0) := blk_cell HP.out.1 0
              have p1 : wr.cell? ⟨ob, 1, none⟩ = some (.int .i64 o_.f1) := blk_cell HP.out.1 1
              have HT100 := Aside0.mk (show T < 1000000 by have := TK.out; have := HLT.out; have := h100.out; omega)
              have hw1 : ((T : Int) + 1) % 4294967296 = ((T + 1 : Nat) : Int) := by have := HT100.out; omega
              rcases (show T % 2 = 0 ∨ T % 2 = 1 by omega) with he | he
              · skip
                have hev : T % 2 = 0 := he
                have hpe : ((T : Int) + 1) % 2 = 1 := by omega
                have hput : LDput y0 y1 (((T : Int) + 1) % 2) (secM ((T : Int) + 1) o_.f0 o_.f1) = (LD y0 (secM ((T : Int) + 1) o_.f0 o_.f1)) := by rw [hpe]; rfl
                have HW0 := Aside0.mk (show ∀ w S g, Top S w → DK w S g (LD y0 y1) → Calls Try.prog 35 #[.pointer (some ⟨g, 0, none⟩), .int .i64 0, .int .u32 ((T : Int) + 1), .agg #[.int .i64 o_.f0, .int .i64 o_.f1]] w fun e w' => e = .returned (.int .i64 0) ∧ DK w' S g (LD y0 (secM ((T : Int) + 1) o_.f0 o_.f1)) ∧ FS S w w' from fun w S g ht hk => by
                  have h := HWR.out w S g y0 y1 ((T : Int) + 1) o_.f0 o_.f1 ht hk (by have := HT100.out; omega) HMAY.out
                  rw [hput] at h
                  exact h)
                have HIN := Aside0.mk ((inv_put HI.out HT100.out HMAY.out).1 hev)
                have hw2 : ((T : Int) + 1 + 1) % 4294967296 = (T : Int) + 1 + 1 := by have := HT100.out; omega
                have htm : ((T : Int) + 1 + 1).tmod 2 = 0 := by rw [Int.tmod_eq_emod_of_nonneg (by omega)]; omega
                clear hput hpe hev he
                go_upto_region 19 with (go_at_call 35; (with_reducible refine (HW0.out _ _ _ (top_paint _ _ 1) (HKa.out.paint 1)).mono ?_); rintro e w1 ⟨rfl, hk1, hf1⟩; have HKa_n := Aside0.mk (hk1); have F_n := Aside0.mk (F.out.trans (FS.base hf1 C.out (by decide))); have C_n := Aside0.mk (C.out.paint 1 F.out.size); have HM_n := Aside0.mk (blk_apart HM.out.1 HM.out.2 hf1 (by decide)); have HW_n := Aside0.mk (blk_apart HW.out.1 HW.out.2 hf1 (by decide)); have HP_n := Aside0.mk (blk_apart HP.out.1 HP.out.2 hf1 (by decide)); clear HKa F C HM HW HP; have HKa := HKa_n; have F := F_n; have C := C_n; have HM := HM_n; have HW := HW_n; have HP := HP_n; clear HKa_n F_n C_n HM_n HW_n HP_n; clear hk1 hf1; clear p0 p1; have p0 : w1.cell? ⟨ob, 0, none⟩ = some (.int .i64 o_.f0) := blk_cell HP.out.1 0; have p1 : w1.cell? ⟨ob, 1, none⟩ = some (.int .i64 o_.f1) := blk_cell HP.out.1 1; have m0 : w1.cell? ⟨wt, 0, none⟩ = some (.int .i64 c) := blk_cell HM.out.1 0; have m1 : w1.cell? ⟨wt, 1, none⟩ = some (.int .i64 l') := blk_cell HM.out.1 1; have mf0 := blk_frozen HM.out.1 0; have mf1 := blk_frozen HM.out.1 1)
                have HM_n := Aside0.mk (And.intro (set_blk (set_blk HM.out.1 0 (.int .i64 o_.f0)) 1 (.int .i64 o_.f1)) HM.out.2)
                have HKa_n := Aside0.mk ((HKa.out.stored HM.out.2 (by decide) 0 (.int .i64 o_.f0)).stored HM.out.2 (by decide) 1 (.int .i64 o_.f1))
                have HW_n := Aside0.mk (And.intro (blk_stored (blk_stored HW.out.1 HMW.out.symm 0 (.int .i64 o_.f0)) HMW.out.symm 1 (.int .i64 o_.f1)) HW.out.2)
                have F_n := Aside0.mk ((F.out.setCell (p := ⟨wt, 0, none⟩) (.inl HGM.out) (.int .i64 o_.f0)).setCell (p := ⟨wt, 1, none⟩) (.inl HGM.out) (.int .i64 o_.f1))
                clear HM HKa HW F HP p0 p1 m0 m1 mf0 mf1
                have HM := HM_n; have HKa := HKa_n; have HW := HW_n; have F := F_n
                clear HM_n HKa_n HW_n F_n
                generalize (w1.setCell ⟨wt, 0, none⟩ (.int .i64 o_.f0)).setCell ⟨wt, 1, none⟩ (.int .i64 o_.f1) = Y at *
                go_upto_region 20 with (go_at_call 19; (with_reducible refine (HSE0.out _ _ _ _ _ HKa.out).mono ?_); rintro e w1 ⟨rfl, hb1⟩; have HKa_n := Aside0.mk (HKa.out.below hb1); have F_n := Aside0.mk (F.out.below hb1); have HM_n := Aside0.mk (And.intro (blk_below HM.out.1 hb1) HM.out.2); have HW_n := Aside0.mk (And.intro (blk_below HW.out.1 hb1) HW.out.2); clear HKa F HM HW; have HKa := HKa_n; have F := F_n; have HM := HM_n; have HW := HW_n; clear HKa_n F_n HM_n HW_n; clear hb1)
                have cz : w1.cell? ⟨wa, 0, none⟩ = some (.string y0) := blk_cell HW.out.1 0
                go_wp2
                go_roundw
                case rel => exact ⟨k + 1, T + 1, _, _, y0, y1, o_.f0, o_.f1, _, by first | rw [hwk] | go_num, by first | rfl | go_num, ⟨HLT.out⟩, ⟨by have := TK.out; omega⟩, HKa, C, F, HM, HW, HIN⟩
                case measure =>
                  try rw [hwk]
                  have := HLT.out
                  simp [intOf]; omega
              · skip
                have hev : T % 2 = 1 := he
                have hpe : ((T : Int) + 1) % 2 = 0 := by omega
                have hput : LDput y0 y1 (((T : Int) + 1) % 2) (secM ((T : Int) + 1) o_.f0 o_.f1) = (LD (secM ((T : Int) + 1) o_.f0 o_.f1) y1) := by rw [hpe]; rfl
                have HW0 := Aside0.mk (show ∀ w S g, Top S w → DK w S g (LD y0 y1) → Calls Try.prog 35 #[.pointer (some ⟨g, 0, none⟩), .int .i64 0, .int .u32 ((T : Int) + 1), .agg #[.int .i64 o_.f0, .int .i64 o_.f1]] w fun e w' => e = .returned (.int .i64 0) ∧ DK w' S g (LD (secM ((T : Int) + 1) o_.f0 o_.f1) y1) ∧ FS S w w' from fun w S g ht hk => by
                  have h := HWR.out w S g y0 y1 ((T : Int) + 1) o_.f0 o_.f1 ht hk (by have := HT100.out; omega) HMAY.out
                  rw [hput] at h
                  exact h)
                have HIN := Aside0.mk ((inv_put HI.out HT100.out HMAY.out).2 hev)
                have hw2 : ((T : Int) + 1 + 1) % 4294967296 = (T : Int) + 1 + 1 := by have := HT100.out; omega
                have htm : ((T : Int) + 1 + 1).tmod 2 = 1 := by rw [Int.tmod_eq_emod_of_nonneg (by omega)]; omega
                clear hput hpe hev he
                go_upto_region 19 with (go_at_call 35; (with_reducible refine (HW0.out _ _ _ (top_paint _ _ 1) (HKa.out.paint 1)).mono ?_); rintro e w1 ⟨rfl, hk1, hf1⟩; have HKa_n := Aside0.mk (hk1); have F_n := Aside0.mk (F.out.trans (FS.base hf1 C.out (by decide))); have C_n := Aside0.mk (C.out.paint 1 F.out.size); have HM_n := Aside0.mk (blk_apart HM.out.1 HM.out.2 hf1 (by decide)); have HW_n := Aside0.mk (blk_apart HW.out.1 HW.out.2 hf1 (by decide)); have HP_n := Aside0.mk (blk_apart HP.out.1 HP.out.2 hf1 (by decide)); clear HKa F C HM HW HP; have HKa := HKa_n; have F := F_n; have C := C_n; have HM := HM_n; have HW := HW_n; have HP := HP_n; clear HKa_n F_n C_n HM_n HW_n HP_n; clear hk1 hf1; clear p0 p1; have p0 : w1.cell? ⟨ob, 0, none⟩ = some (.int .i64 o_.f0) := blk_cell HP.out.1 0; have p1 : w1.cell? ⟨ob, 1, none⟩ = some (.int .i64 o_.f1) := blk_cell HP.out.1 1; have m0 : w1.cell? ⟨wt, 0, none⟩ = some (.int .i64 c) := blk_cell HM.out.1 0; have m1 : w1.cell? ⟨wt, 1, none⟩ = some (.int .i64 l') := blk_cell HM.out.1 1; have mf0 := blk_frozen HM.out.1 0; have mf1 := blk_frozen HM.out.1 1)
                have HM_n := Aside0.mk (And.intro (set_blk (set_blk HM.out.1 0 (.int .i64 o_.f0)) 1 (.int .i64 o_.f1)) HM.out.2)
                have HKa_n := Aside0.mk ((HKa.out.stored HM.out.2 (by decide) 0 (.int .i64 o_.f0)).stored HM.out.2 (by decide) 1 (.int .i64 o_.f1))
                have HW_n := Aside0.mk (And.intro (blk_stored (blk_stored HW.out.1 HMW.out.symm 0 (.int .i64 o_.f0)) HMW.out.symm 1 (.int .i64 o_.f1)) HW.out.2)
                have F_n := Aside0.mk ((F.out.setCell (p := ⟨wt, 0, none⟩) (.inl HGM.out) (.int .i64 o_.f0)).setCell (p := ⟨wt, 1, none⟩) (.inl HGM.out) (.int .i64 o_.f1))
                clear HM HKa HW F HP p0 p1 m0 m1 mf0 mf1
                have HM := HM_n; have HKa := HKa_n; have HW := HW_n; have F := F_n
                clear HM_n HKa_n HW_n F_n
                generalize (w1.setCell ⟨wt, 0, none⟩ (.int .i64 o_.f0)).setCell ⟨wt, 1, none⟩ (.int .i64 o_.f1) = Y at *
                go_upto_region 20 with (go_at_call 19; (with_reducible refine (HSE1.out _ _ _ _ _ HKa.out).mono ?_); rintro e w1 ⟨rfl, hb1⟩; have HKa_n := Aside0.mk (HKa.out.below hb1); have F_n := Aside0.mk (F.out.below hb1); have HM_n := Aside0.mk (And.intro (blk_below HM.out.1 hb1) HM.out.2); have HW_n := Aside0.mk (And.intro (blk_below HW.out.1 hb1) HW.out.2); clear HKa F HM HW; have HKa := HKa_n; have F := F_n; have HM := HM_n; have HW := HW_n; clear HKa_n F_n HM_n HW_n; clear hb1)
                have cz : w1.cell? ⟨wa, 1, none⟩ = some (.string y1) := blk_cell HW.out.1 1
                go_wp2
                go_roundw
                case rel => exact ⟨k + 1, T + 1, _, _, y0, y1, o_.f0, o_.f1, _, by first | rw [hwk] | go_num, by first | rfl | go_num, ⟨HLT.out⟩, ⟨by have := TK.out; omega⟩, HKa, C, F, HM, HW, HIN⟩
                case measure =>
                  try rw [hwk]
                  have := HLT.out
                  simp [intOf]; omega
      · obtain rfl : k = l.length := by have := K.out; omega
        clear hlt
        obtain ⟨f, hf⟩ := inv_read HI.out
        have HFF := Aside0.mk hf; clear hf
        go_upto_region 24 with (go_at_call 33; (with_reducible refine (HRD.out _ _ _ _ _ _ _ _ _ HKa.out HFF.out).mono ?_); rintro e w1 ⟨rfl, hb1⟩; have HKa_n := Aside0.mk (HKa.out.below hb1); have F_n := Aside0.mk (F.out.below hb1); have HM_n := Aside0.mk (And.intro (blk_below HM.out.1 hb1) HM.out.2); clear HKa F HM; have HKa := HKa_n; have F := F_n; have HM := HM_n; clear HKa_n F_n HM_n; clear hb1; have hb2 := (Below.refl w1.heap.size w1).alloc (Nat.le_refl _) (.cells #[.int .i64 c, .int .i64 l'] 61); have H13 := Aside0.mk (And.intro (heap_alloc_new w1 (.cells #[.int .i64 c, .int .i64 l'] 61)) (c2_new C.out (Nat.le_refl w1.heap.size))); have HKa_n := Aside0.mk ((HKa.out.paint 2).below hb2); have F_n := Aside0.mk (F.out.below hb2); have C_n := Aside0.mk (C.out.paint 2 F.out.size); have HM_n := Aside0.mk (And.intro (blk_below HM.out.1 hb2) ((paint_old (x := 2) (blk_lt HM.out.1)).trans HM.out.2)); clear HKa F C HM; have HKa := HKa_n; have F := F_n; have C := C_n; have HM := HM_n; clear HKa_n F_n C_n HM_n; clear hb2)
        have m0 : (w1.alloc (.cells #[.int .i64 c, .int .i64 l'] 61)).cell? ⟨wt, 0, none⟩ = some (.int .i64 c) := blk_cell HM.out.1 0
        have m1 : (w1.alloc (.cells #[.int .i64 c, .int .i64 l'] 61)).cell? ⟨wt, 1, none⟩ = some (.int .i64 l') := blk_cell HM.out.1 1
        have r0 : (w1.alloc (.cells #[.int .i64 c, .int .i64 l'] 61)).cell? ⟨w1.heap.size, 0, none⟩ = some (.int .i64 c) := blk_cell H13.out.1 0
        have r1 : (w1.alloc (.cells #[.int .i64 c, .int .i64 l'] 61)).cell? ⟨w1.heap.size, 1, none⟩ = some (.int .i64 l') := blk_cell H13.out.1 1
        go_wp2
        go_ret
        exact ⟨rfl, FS.up F.out (Nat.le_refl _)⟩
def careenlaw12_MasterTurns.f (l0 : List S61) : Option Bool := some true
theorem careenlaw12_MasterTurns.calls (A0 : Option Addr) (c0 : Nat) (l0 : List (S61)) (r : Bool) (w : World) (hr0 : Kd.C k61 w A0 l0.length l0) (hc0 : l0.length ≤ c0) (h : careenlaw12_MasterTurns.f l0 = some r) :
    Calls Try.prog 10 #[.slice A0 l0.length c0] w fun e w' => e = .returned (.bool r) ∧ Below w.heap.size w w' := by
  obtain rfl := Option.some.inj h
  exact turns_walk A0 c0 l0 w hr0
end Go.Proofs.Ytbdfdfahpdilpaa.X12
