import Derived.Test.YtbdfdfahpdilpaaM7
/-! Layer 12: MasterOne. -/
namespace Go.Proofs.Ytbdfdfahpdilpaa.X12
open Go Go.RowKit Go.ChangeMaps Go.Proofs.Ytbdfdfahpdilpaa.Arr Go.Proofs.Ytbdfdfahpdilpaa.Mp Go.Proofs.Ytbdfdfahpdilpaa.Ow Go.Proofs.Ytbdfdfahpdilpaa.Dk Go.Proofs.Ytbdfdfahpdilpaa.Slab Go.Proofs.Ytbdfdfahpdilpaa.Lv Go.Proofs.YtbdfdfahpdilpaaW.PrintWords Go.Proofs.YtbdfdfahpdilpaaW.PrintLast Go.Proofs.YtbdfdfahpdilpaaW.PrintMore
set_option linter.unusedVariables false
set_option linter.unusedSimpArgs false
def long12F (l : List S74) : Bool := l.any (fun x => decide (200 < x.f4.length)) || decide (300 < l.length)
theorem long12_eq (l : List S74) (hl : l.length ≤ 9223372036854775807) : ∀ n i, i + n = l.length → careenlaw12_long.l0 (n + 1) l l (l.length : Int) (i : Int) = some ((l.drop i).any (fun x => decide (200 < x.f4.length)) || decide (300 < l.length)) := by
  intro n
  induction n with
  | zero =>
    intro i hi
    rw [careenlaw12_long.l0, if_neg (by omega), List.drop_of_length_le (by omega)]
    congr 1
    simp only [List.any_nil, Bool.false_or]
    exact decide_eq_decide.2 ⟨fun h => by omega, fun h => by omega⟩
  | succ n ih =>
    intro i hi
    have hlt : i < l.length := by omega
    have hr : rd_T74 l (i : Int) = l[i] := by
      unfold rd_T74
      rw [Int.toNat_natCast, List.getD_eq_getElem?_getD, List.getElem?_eq_getElem hlt]
      rfl
    have hw : wrap64 ((i : Int) + 1) = ((i + 1 : Nat) : Int) := by unfold wrap64; omega
    rw [careenlaw12_long.l0, if_pos (by omega), if_pos (by omega), if_pos (by omega), hr, List.drop_eq_getElem_cons hlt, List.any_cons]
    by_cases h : (l[i].f4.length : Int) > 200
    · rw [if_pos h, decide_eq_true (p := 200 < l[i].f4.length) (by omega)]
      simp
    · rw [if_neg h, decide_eq_false (p := 200 < l[i].f4.length) (by omega), hw, ih (i + 1) (by omega)]
      simp
theorem long12_calls (A0 : Option Addr) (c0 : Nat) (l : List S74) (w : World) (hr : Kd.C k74 w A0 l.length l) (hc : l.length ≤ c0) : Calls Try.prog 37 #[.slice A0 l.length c0] w fun e w' => e = .returned (.bool (long12F l)) ∧ Below w.heap.size w w' :=
  careenlaw12_long.calls (l.length + 1) A0 c0 l _ w hr hc (long12_eq l (Kd.C_max hr) l.length 0 (by omega))
theorem LF_ok (s0 s1 : ByteArray) {n : Int} (h : 0 ≤ n ∧ n < 4) : OkN 0 (LF s0 s1 n) := ⟨⟨by show 0 ≤ 1000000; omega, by show (-1 : Int) ≤ n; omega, by show n < 9223372036854775808; omega, by show 2 ≤ 512; omega, fun p hp => by cases hp⟩, Nat.le_refl _⟩
def OkM (l : List S74) : Prop := ∀ x ∈ l, ∀ y ∈ x.f4, 0 ≤ y ∧ y < 256
theorem rd74_mem {l : List S74} {k : Nat} (h : k < l.length) : rd_T74 l k ∈ l := by
  unfold rd_T74
  rw [Int.toNat_natCast, List.getD_eq_getElem?_getD, List.getElem?_eq_getElem h]
  exact List.getElem_mem h
set_option maxHeartbeats 16000000 in
set_option maxRecDepth 20000 in
theorem mone_walk (A0 : Option Addr) (c0 : Nat) (l : List S74) (w : World) (hr : Kd.C k74 w A0 l.length l) (hc0 : l.length ≤ c0) (ho : OkM l) : Calls Try.prog 11 #[.slice A0 l.length c0] w fun e w' => e = .returned (.bool true) ∧ Below w.heap.size w w' := by
  have hnew : ∀ w, Calls Try.prog 13 #[.int .i64 2] w fun e w' => ∃ g, w.heap.size ≤ g ∧ e = .returned (.tuple #[.pointer (some ⟨g, 0, none⟩), .int .i64 0]) ∧ DK w' (fun k => w.heap.size ≤ k) g (LD (noughts 128) (noughts 128)) ∧ Below w.heap.size w w' := fun w => new_calls 2 (by decide) (by decide) w
  have hRd : ∀ w S g s0 s1 c l t f, DK w S g (LD s0 s1) → stepM (stepM ⟨0, 1, 0, false⟩ (oneB s0)) (oneB s1) = ⟨c, l, t, f⟩ → Calls Try.prog 33 #[.pointer (some ⟨g, 0, none⟩), .int .i64 0] w fun e w' => e = .returned (.tuple #[.agg #[.int .i64 c, .int .i64 l], .int .u32 t, .int .i64 0]) ∧ Below w.heap.size w w' := fun w S g s0 s1 c l t f hk hs => by
    have h := mread_calls (LD s0 s1) g 0 S w hk (LD_ok _ _).ok
    rw [LD_fold, hs] at h
    exact h
  have hAr : ∀ w S g s0 s1 n, DK w S g (LD s0 s1) → 0 ≤ n ∧ n < 4 → Calls Try.prog 23 #[.pointer (some ⟨g, 0, none⟩), .int .i64 n] w fun e w' => e = .returned (.tuple #[]) ∧ DK w' S g (LF s0 s1 n) ∧ FS S w w' := fun w S g s0 s1 n hk hn => by
    have h := arm_calls (LD s0 s1) g n S w hk
    rw [LF_arm s0 s1 n hn.1] at h
    exact h
  have HRD := Aside0.mk hRd; have HAR := Aside0.mk hAr
  clear hRd hAr
  have hm := Kd.C_max hr
  have HR := Aside0.mk hr; have HOK := Aside0.mk ho; have HC0 := Aside0.mk hc0; clear hr ho hc0
  go_enter Try.func11, Try.ntmps11
  go_upto_region 2 with (go_at_call 13; (with_reducible refine (hnew _).mono ?_); rintro e w1 ⟨ga, hge, rfl, hk1, hb1⟩; have HKa := Aside0.mk (hk1.fresh (fun _ => 0) 1); have C := Aside0.mk (olds_paint0 w.heap.size w.heap.size 1 (Nat.le_refl _)); have F := Aside0.mk (FS.of_below hb1); clear hk1 hb1 hge)
  generalize Dk.paint (fun _ => 0) w.heap.size 1 = cl at *
  cases hlong : long12F l with
  | true =>
    go_wp2_with (first | (go_at_call 34; (with_reducible refine (awake12_calls _).mono ?_); rintro e w1 ⟨rfl, hb1⟩; have HKa_n := Aside0.mk (HKa.out.below hb1); have F_n := Aside0.mk (F.out.below hb1); clear HKa F; have HKa := HKa_n; have F := F_n; clear HKa_n F_n; clear hb1) | (go_at_call 37; (with_reducible refine (long12_calls _ _ _ _ (Kd.C_below HR.out (FS.up F.out (Nat.le_refl _))) HC0.out).mono ?_); rintro e w1 ⟨rfl, hb1⟩; have HKa_n := Aside0.mk (HKa.out.below hb1); have F_n := Aside0.mk (F.out.below hb1); clear HKa F; have HKa := HKa_n; have F := F_n; clear HKa_n F_n; clear hb1))
    go_ret
    exact ⟨rfl, FS.up F.out (Nat.le_refl _)⟩
  | false =>
    have h300 := Aside0.mk (show l.length ≤ 300 by
      have := hlong
      unfold long12F at this
      simp only [Bool.or_eq_false_iff, decide_eq_false_iff_not] at this
      omega)
    go_upto_region 5 with (first | (go_at_call 34; (with_reducible refine (awake12_calls _).mono ?_); rintro e w1 ⟨rfl, hb1⟩; have HKa_n := Aside0.mk (HKa.out.below hb1); have F_n := Aside0.mk (F.out.below hb1); clear HKa F; have HKa := HKa_n; have F := F_n; clear HKa_n F_n; clear hb1) | (go_at_call 37; (with_reducible refine (long12_calls _ _ _ _ (Kd.C_below HR.out (FS.up F.out (Nat.le_refl _))) HC0.out).mono ?_); rintro e w1 ⟨rfl, hb1⟩; have HKa_n := Aside0.mk (HKa.out.below hb1); have F_n := Aside0.mk (F.out.below hb1); clear HKa F; have HKa := HKa_n; have F := F_n; clear HKa_n F_n; clear hb1))
    clear hlong
    have hB1 := (Below.refl w1.heap.size w1).alloc (Nat.le_refl _) (.cells #[.int .i64 0, .int .i64 1] 61)
    have HM := Aside0.mk (And.intro (heap_alloc_new w1 (.cells #[.int .i64 0, .int .i64 1] 61)) (c2_new C.out (Nat.le_refl w1.heap.size)))
    have HKa_n := Aside0.mk ((HKa.out.paint 2).below hB1); have F_n := Aside0.mk (F.out.below hB1); have C_n := Aside0.mk (C.out.paint 2 F.out.size); have HGM := Aside0.mk F.out.size
    clear HKa F C hB1
    have HKa := HKa_n; have F := F_n; have C := C_n; clear HKa_n F_n C_n
    generalize w1.alloc (.cells #[.int .i64 0, .int .i64 1] 61) = W at *
    generalize Dk.paint cl w1.heap.size 2 = cl at *
    generalize w1.heap.size = wt at *
    go_upto_region 6 with (fail)
    go_loopw [38] (fun v wr => ∃ (k T : Nat) (s0 s1 : ByteArray) (c l' : Int) (cl : Nat → Nat), v = .int .i64 k ∧ Aside0 (k ≤ l.length) ∧ Aside0 (T ≤ k) ∧ Aside0 (DK wr (Col cl 1) ga (LD s0 s1)) ∧ Aside0 (Olds cl w.heap.size) ∧ Aside0 (FS (fun x => w.heap.size ≤ x) w wr) ∧ Aside0 (wr.heap[wt]? = some (.cells #[.int .i64 c, .int .i64 l'] 61 (0, 0)) ∧ cl wt = 2) ∧ Aside0 (InvT s0 s1 T c l')) (fun v _ => l.length - (intOf v).toNat)
    case atStart => exact ⟨0, 0, _, _, 0, 1, cl, rfl, ⟨by omega⟩, ⟨by omega⟩, HKa, C, F, HM, ⟨inv_new⟩⟩
    case round =>
      clear HKa C F HM
      obtain ⟨k, T, s0, s1, c, l', cl, rfl, K, TK, HKa, C, F, HM, HI⟩ := hrel
      by_cases hlt : k < l.length
      · have h1 : (k : Int) < (l.length : Int) := by omega
        have hwk : wrap64 ((k : Int) + 1) = ((k + 1 : Nat) : Int) := by unfold wrap64; omega
        have HLT := Aside0.mk hlt
        have hupx := FS.up F.out (Nat.le_refl w.heap.size)
        obtain ⟨ad, A5, c5, rfl, q0, q1, q2, q3, q4, q5, -, hC5⟩ := at_T74 HR.out (k : Int) (by omega) h1
        rw [Int.toNat_natCast] at q0 q1 q2 q3 q4 q5
        replace q0 := pw_cell_below hupx q0; replace q1 := pw_cell_below hupx q1; replace q2 := pw_cell_below hupx q2; replace q3 := pw_cell_below hupx q3; replace q4 := pw_cell_below hupx q4; replace q5 := pw_cell_below hupx q5
        have HPB := Aside0.mk (HOK.out _ (rd74_mem hlt)); have HP5 := Aside0.mk hC5
        clear hC5 hupx
        generalize rd_T74 l (k : Nat) = o_ at *
        go_upto_region 8 with (fail)
        have hbb := (Below.refl wr.heap.size wr).alloc (Nat.le_refl _) (.cells #[.int .i64 o_.f0, .int .i64 o_.f1, .int .u32 o_.f2, .int .i64 o_.f3.f0, .int .i64 o_.f3.f1, .slice A5 o_.f4.length c5] 74)
        have HP := Aside0.mk (And.intro (heap_alloc_new wr (.cells #[.int .i64 o_.f0, .int .i64 o_.f1, .int .u32 o_.f2, .int .i64 o_.f3.f0, .int .i64 o_.f3.f1, .slice A5 o_.f4.length c5] 74)) (c2_new C.out (Nat.le_refl wr.heap.size)))
        have HKa_n := Aside0.mk ((HKa.out.paint 2).below hbb); have F_n := Aside0.mk (F.out.below hbb); have C_n := Aside0.mk (C.out.paint 2 F.out.size); have HM_n := Aside0.mk (And.intro (blk_below HM.out.1 hbb) ((paint_old (x := 2) (blk_lt HM.out.1)).trans HM.out.2))
        clear HKa F C HM q0 q1 q2 q3 q4 q5 hbb
        have HKa := HKa_n; have F := F_n; have C := C_n; have HM := HM_n
        clear HKa_n F_n C_n HM_n
        generalize wr.alloc (.cells #[.int .i64 o_.f0, .int .i64 o_.f1, .int .u32 o_.f2, .int .i64 o_.f3.f0, .int .i64 o_.f3.f1, .slice A5 o_.f4.length c5] 74) = W7 at *
        generalize Dk.paint cl wr.heap.size 2 = cl at *
        generalize wr.heap.size = ob at *
        obtain ⟨f, hf⟩ := inv_read HI.out
        have HFF := Aside0.mk hf; clear hf
        go_upto_region 9 with (go_at_call 33; (with_reducible refine (HRD.out _ _ _ _ _ _ _ _ _ HKa.out HFF.out).mono ?_); rintro e w1 ⟨rfl, hb1⟩; have HKa_n := Aside0.mk (HKa.out.below hb1); have F_n := Aside0.mk (F.out.below hb1); have HM_n := Aside0.mk (And.intro (blk_below HM.out.1 hb1) HM.out.2); have HP_n := Aside0.mk (And.intro (blk_below HP.out.1 hb1) HP.out.2); clear HKa F HM HP; have HKa := HKa_n; have F := F_n; have HM := HM_n; have HP := HP_n; clear HKa_n F_n HM_n HP_n; clear hb1; have hb2 := (Below.refl w1.heap.size w1).alloc (Nat.le_refl _) (.cells #[.int .i64 c, .int .i64 l'] 61); have H8 := Aside0.mk (And.intro (heap_alloc_new w1 (.cells #[.int .i64 c, .int .i64 l'] 61)) (c2_new C.out (Nat.le_refl w1.heap.size))); have HKa_n := Aside0.mk ((HKa.out.paint 2).below hb2); have F_n := Aside0.mk (F.out.below hb2); have C_n := Aside0.mk (C.out.paint 2 F.out.size); have HM_n := Aside0.mk (And.intro (blk_below HM.out.1 hb2) ((paint_old (x := 2) (blk_lt HM.out.1)).trans HM.out.2)); have HP_n := Aside0.mk (And.intro (blk_below HP.out.1 hb2) ((paint_old (x := 2) (blk_lt HP.out.1)).trans HP.out.2)); clear HKa F C HM HP; have HKa := HKa_n; have F := F_n; have C := C_n; have HM := HM_n; have HP := HP_n; clear HKa_n F_n C_n HM_n HP_n; clear hb2)
        generalize w1.alloc (.cells #[.int .i64 c, .int .i64 l'] 61) = W8 at *
        generalize Dk.paint cl w1.heap.size 2 = cl at *
        generalize w1.heap.size = m8 at *
        have a0 : W8.cell? ⟨wt, 0, none⟩ = some (.int .i64 c) := blk_cell HM.out.1 0
        have a1 : W8.cell? ⟨wt, 1, none⟩ = some (.int .i64 l') := blk_cell HM.out.1 1
        have b0 : W8.cell? ⟨m8, 0, none⟩ = some (.int .i64 c) := blk_cell H8.out.1 0
        have b1 : W8.cell? ⟨m8, 1, none⟩ = some (.int .i64 l') := blk_cell H8.out.1 1
        have p3 : W8.cell? ⟨ob, 3, none⟩ = some (.int .i64 o_.f3.f0) := blk_cell HP.out.1 3
        have p4 : W8.cell? ⟨ob, 4, none⟩ = some (.int .i64 o_.f3.f1) := blk_cell HP.out.1 4
        cases hmay : mayM o_.f3.f0 o_.f3.f1 with
        | false =>
          go_wp2_with (go_at_call 36; (with_reducible refine (refmay_calls _ _ _).mono ?_); rintro e w1 ⟨rfl, hb1⟩; have HKa_n := Aside0.mk (HKa.out.below hb1); have F_n := Aside0.mk (F.out.below hb1); have HM_n := Aside0.mk (And.intro (blk_below HM.out.1 hb1) HM.out.2); have HP_n := Aside0.mk (And.intro (blk_below HP.out.1 hb1) HP.out.2); clear HKa F HM HP; have HKa := HKa_n; have F := F_n; have HM := HM_n; have HP := HP_n; clear HKa_n F_n HM_n HP_n; clear hb1)
          go_roundw
          case rel => exact ⟨k + 1, T, s0, s1, c, l', cl, by first | rw [hwk] | go_num, ⟨HLT.out⟩, ⟨by have := TK.out; omega⟩, HKa, C, F, HM, HI⟩
          case measure =>
            try rw [hwk]
            have := HLT.out
            simp [intOf]; omega
        | true =>
          go_upto_region 12 with (go_at_call 36; (with_reducible refine (refmay_calls _ _ _).mono ?_); rintro e w1 ⟨rfl, hb1⟩; have HKa_n := Aside0.mk (HKa.out.below hb1); have F_n := Aside0.mk (F.out.below hb1); have HM_n := Aside0.mk (And.intro (blk_below HM.out.1 hb1) HM.out.2); have HP_n := Aside0.mk (And.intro (blk_below HP.out.1 hb1) HP.out.2); clear HKa F HM HP; have HKa := HKa_n; have F := F_n; have HM := HM_n; have HP := HP_n; clear HKa_n F_n HM_n HP_n; clear hb1)
          clear a0 a1 b0 b1 p3 p4
          have HT := Aside0.mk (show T < 1000000 by have := TK.out; have := HLT.out; have := h300.out; omega)
          have hw1 : ((T : Int) + 1) % 4294967296 = ((T + 1 : Nat) : Int) := by have := HT.out; omega
          have HMAY := Aside0.mk hmay; clear hmay H8
          by_cases hk1 : o_.f0 = 1
          · have p0 : w1.cell? ⟨ob, 0, none⟩ = some (.int .i64 1) := hk1 ▸ blk_cell HP.out.1 0
            have p3 : w1.cell? ⟨ob, 3, none⟩ = some (.int .i64 o_.f3.f0) := blk_cell HP.out.1 3
            have p4 : w1.cell? ⟨ob, 4, none⟩ = some (.int .i64 o_.f3.f1) := blk_cell HP.out.1 4
            clear hk1
            obtain ⟨a, b, hab, hinv⟩ := inv_new_put HI.out HT.out HMAY.out
            have HW0 := Aside0.mk (show ∀ w S g, Top S w → DK w S g (LD s0 s1) → Calls Try.prog 35 #[.pointer (some ⟨g, 0, none⟩), .int .i64 0, .int .u32 ((T : Int) + 1), .agg #[.int .i64 o_.f3.f0, .int .i64 o_.f3.f1]] w fun e w' => e = .returned (.int .i64 0) ∧ DK w' S g (LD a b) ∧ FS S w w' from fun w S g ht hk => by
              have hb : 0 ≤ ((T + 1 : Nat) : Int) ∧ ((T + 1 : Nat) : Int) < 4294967296 := by have := HT.out; omega
              have h := mwrite_calls _ g 0 ((T + 1 : Nat) : Int) o_.f3.f0 o_.f3.f1 S w ht hk (LD_ok _ _) (by decide) hb
              rw [(LD_write s0 s1 hb HMAY.out).1, (LD_write s0 s1 hb HMAY.out).2, hab] at h
              exact h)
            obtain ⟨f2, hf2⟩ := inv_read hinv
            have HF2 := Aside0.mk hf2; have HIN := Aside0.mk hinv
            clear hab hinv hf2
            go_upto_region 18 with (go_at_call 35; (with_reducible refine (HW0.out _ _ _ (top_paint _ _ 1) (HKa.out.paint 1)).mono ?_); rintro e w1 ⟨rfl, hk1, hf1⟩; have HKa_n := Aside0.mk (hk1); have F_n := Aside0.mk (F.out.trans (FS.base hf1 C.out (by decide))); have C_n := Aside0.mk (C.out.paint 1 F.out.size); have HM_n := Aside0.mk (blk_apart HM.out.1 HM.out.2 hf1 (by decide)); have HP_n := Aside0.mk (blk_apart HP.out.1 HP.out.2 hf1 (by decide)); clear HKa F C HM HP; have HKa := HKa_n; have F := F_n; have C := C_n; have HM := HM_n; have HP := HP_n; clear HKa_n F_n C_n HM_n HP_n; clear hk1 hf1)
            clear p0 p3 p4
            go_upto_region 19 with (go_at_call 33; (with_reducible refine (HRD.out _ _ _ _ _ _ _ _ _ HKa.out HF2.out).mono ?_); rintro e w1 ⟨rfl, hb1⟩; have HKa_n := Aside0.mk (HKa.out.below hb1); have F_n := Aside0.mk (F.out.below hb1); have HM_n := Aside0.mk (And.intro (blk_below HM.out.1 hb1) HM.out.2); have HP_n := Aside0.mk (And.intro (blk_below HP.out.1 hb1) HP.out.2); clear HKa F HM HP; have HKa := HKa_n; have F := F_n; have HM := HM_n; have HP := HP_n; clear HKa_n F_n HM_n HP_n; clear hb1; have hb2 := (Below.refl w1.heap.size w1).alloc (Nat.le_refl _) (.cells #[.int .i64 o_.f3.f0, .int .i64 o_.f3.f1] 61); have H13 := Aside0.mk (And.intro (heap_alloc_new w1 (.cells #[.int .i64 o_.f3.f0, .int .i64 o_.f3.f1] 61)) (c2_new C.out (Nat.le_refl w1.heap.size))); have HKa_n := Aside0.mk ((HKa.out.paint 2).below hb2); have F_n := Aside0.mk (F.out.below hb2); have C_n := Aside0.mk (C.out.paint 2 F.out.size); have HM_n := Aside0.mk (And.intro (blk_below HM.out.1 hb2) ((paint_old (x := 2) (blk_lt HM.out.1)).trans HM.out.2)); have HP_n := Aside0.mk (And.intro (blk_below HP.out.1 hb2) ((paint_old (x := 2) (blk_lt HP.out.1)).trans HP.out.2)); clear HKa F C HM HP; have HKa := HKa_n; have F := F_n; have C := C_n; have HM := HM_n; have HP := HP_n; clear HKa_n F_n C_n HM_n HP_n; clear hb2)
            generalize w1.alloc (.cells #[.int .i64 o_.f3.f0, .int .i64 o_.f3.f1] 61) = X at *
            generalize w1.heap.size = m13 at *
            have n0 : X.cell? ⟨m13, 0, none⟩ = some (.int .i64 o_.f3.f0) := blk_cell H13.out.1 0
            have n1 : X.cell? ⟨m13, 1, none⟩ = some (.int .i64 o_.f3.f1) := blk_cell H13.out.1 1
            have p3 : X.cell? ⟨ob, 3, none⟩ = some (.int .i64 o_.f3.f0) := blk_cell HP.out.1 3
            have p4 : X.cell? ⟨ob, 4, none⟩ = some (.int .i64 o_.f3.f1) := blk_cell HP.out.1 4
            have a0 : X.cell? ⟨wt, 0, none⟩ = some (.int .i64 c) := blk_cell HM.out.1 0
            have a1 : X.cell? ⟨wt, 1, none⟩ = some (.int .i64 l') := blk_cell HM.out.1 1
            have mf0 := blk_frozen HM.out.1 0; have mf1 := blk_frozen HM.out.1 1
            go_wp2
            go_roundw
            case rel => exact ⟨k + 1, T + 1, a, b, o_.f3.f0, o_.f3.f1, _, by first | rw [hwk] | go_num, ⟨HLT.out⟩, ⟨by have := TK.out; omega⟩, ⟨(HKa.out.stored HM.out.2 (by decide) 0 _).stored HM.out.2 (by decide) 1 _⟩, C, ⟨(F.out.setCell (p := ⟨wt, 0, none⟩) (.inl HGM.out) _).setCell (p := ⟨wt, 1, none⟩) (.inl HGM.out) _⟩, ⟨And.intro (set_blk (set_blk HM.out.1 0 _) 1 _) HM.out.2⟩, HIN⟩
            case measure =>
              try rw [hwk]
              have := HLT.out
              simp [intOf]; omega
          · have p0 : w1.cell? ⟨ob, 0, none⟩ = some (.int .i64 o_.f0) := blk_cell HP.out.1 0
            have p1 : w1.cell? ⟨ob, 1, none⟩ = some (.int .i64 o_.f1) := blk_cell HP.out.1 1
            have hk2 : (o_.f0 == 1) = false := by simp [hk1]
            clear hk1
            have HN := Aside0.mk (mod_ok 4 o_.f1 (by decide) (by decide))
            go_upto_region 15 with (go_at_call 23; (with_reducible refine (HAR.out _ (Col (Dk.paint _ _ 1) 1) _ _ _ _ (HKa.out.paint 1) HN.out).mono ?_); rintro e w1 ⟨rfl, hk1, hf1⟩; have HKa_n := Aside0.mk (hk1); have F_n := Aside0.mk (F.out.trans (FS.base hf1 C.out (by decide))); have C_n := Aside0.mk (C.out.paint 1 F.out.size); have HM_n := Aside0.mk (blk_apart HM.out.1 HM.out.2 hf1 (by decide)); have HP_n := Aside0.mk (blk_apart HP.out.1 HP.out.2 hf1 (by decide)); clear HKa F C HM HP; have HKa := HKa_n; have F := F_n; have C := C_n; have HM := HM_n; have HP := HP_n; clear HKa_n F_n C_n HM_n HP_n; clear hk1 hf1)
            clear p0 p1 hk2
            generalize wrap64 ((IntKind.u64.wrap o_.f1).tmod 4) = n at *
            obtain ⟨a, b, U, c2, l2, hcr, hinv, hU, hor⟩ := fuse_step HI.out HT.out HMAY.out HN.out o_.f4.length (fun j => (o_.f4.getD j 0).toNat)
            have HW0 := Aside0.mk (show ∀ w S g, Top S w → DK w S g (LF s0 s1 n) → Calls Try.prog 35 #[.pointer (some ⟨g, 0, none⟩), .int .i64 0, .int .u32 ((T : Int) + 1), .agg #[.int .i64 o_.f3.f0, .int .i64 o_.f3.f1]] w fun e w' => e = .returned (.int .i64 (writeME (LF s0 s1 n) 0 ((T + 1 : Nat) : Int) o_.f3.f0 o_.f3.f1)) ∧ DK w' S g (writeMD (LF s0 s1 n) 0 ((T + 1 : Nat) : Int) o_.f3.f0 o_.f3.f1) ∧ FS S w w' from fun w S g ht hk =>
              mwrite_calls _ g 0 ((T + 1 : Nat) : Int) o_.f3.f0 o_.f3.f1 S w ht hk (LF_ok _ _ HN.out) (by decide) (by have := HT.out; omega))
            have HOD := Aside0.mk (ok_writeM (base := 0) (t := ((T + 1 : Nat) : Int)) (c := o_.f3.f0) (l := o_.f3.f1) (LF_ok s0 s1 HN.out) (by decide))
            generalize writeME (LF s0 s1 n) 0 ((T + 1 : Nat) : Int) o_.f3.f0 o_.f3.f1 = E at *
            generalize writeMD (LF s0 s1 n) 0 ((T + 1 : Nat) : Int) o_.f3.f0 o_.f3.f1 = D1 at *
            obtain ⟨f2, hf2⟩ := inv_read hinv
            have HF2 := Aside0.mk hf2; have HIN := Aside0.mk hinv; have HCR := Aside0.mk hcr; have HOR := Aside0.mk hor; have HU := Aside0.mk hU
            clear hcr hinv hor hU hf2
            have p3 : w1.cell? ⟨ob, 3, none⟩ = some (.int .i64 o_.f3.f0) := blk_cell HP.out.1 3
            have p4 : w1.cell? ⟨ob, 4, none⟩ = some (.int .i64 o_.f3.f1) := blk_cell HP.out.1 4
            go_upto_region 17 with (go_at_call 35; (with_reducible refine (HW0.out _ _ _ (top_paint _ _ 1) (HKa.out.paint 1)).mono ?_); rintro e w1 ⟨rfl, hk1, hf1⟩; have HKa_n := Aside0.mk (hk1); have F_n := Aside0.mk (F.out.trans (FS.base hf1 C.out (by decide))); have C_n := Aside0.mk (C.out.paint 1 F.out.size); have HM_n := Aside0.mk (blk_apart HM.out.1 HM.out.2 hf1 (by decide)); have HP_n := Aside0.mk (blk_apart HP.out.1 HP.out.2 hf1 (by decide)); clear HKa F C HM HP; have HKa := HKa_n; have F := F_n; have C := C_n; have HM := HM_n; have HP := HP_n; clear HKa_n F_n C_n HM_n HP_n; clear hk1 hf1)
            clear p3 p4
            obtain ⟨cl9, HKa, C, HM, HP⟩ : ∃ cl9, Aside0 (DK w1 (Col cl9 1) ga D1) ∧ Aside0 (Olds cl9 w.heap.size) ∧ Aside0 (w1.heap[wt]? = some (.cells #[.int .i64 c, .int .i64 l'] 61 (0, 0)) ∧ cl9 wt = 2) ∧ Aside0 (w1.heap[ob]? = some (.cells #[.int .i64 o_.f0, .int .i64 o_.f1, .int .u32 o_.f2, .int .i64 o_.f3.f0, .int .i64 o_.f3.f1, .slice A5 o_.f4.length c5] 74 (0, 0)) ∧ cl9 ob = 2) := ⟨_, HKa, C, HM, HP⟩
            have HPK : Aside0 (Pk w1 (Col (Dk.paint cl9 w1.heap.size 1) 1) A5 o_.f4.length (fun j => (o_.f4.getD j 0).toNat)) := ⟨pk_in HP5.out HPB.out (FS.up F.out (Nat.le_refl _)) (C.out.paint 1 F.out.size) Nat.one_ne_zero⟩
            have HPP : Aside0 (∀ i, (fun j => (o_.f4.getD j 0).toNat) i < 256) := ⟨pk_lt HPB.out⟩
            have p5 : w1.cell? ⟨ob, 5, none⟩ = some (.slice A5 o_.f4.length c5) := blk_cell HP.out.1 5
            go_upto_region 18 with (go_at_call 20; (with_reducible refine (crash_calls _ _ _ _ _ (fun j => (o_.f4.getD j 0).toNat) _ _ (top_paint _ _ 1) (HKa.out.paint 1) HOD.out.ok HPK.out HPP.out).mono ?_); rintro e w1 ⟨rfl, hk1, hf1⟩; have HKa_n := Aside0.mk (hk1); have F_n := Aside0.mk (F.out.trans (FS.base hf1 C.out (by decide))); have C_n := Aside0.mk (C.out.paint 1 F.out.size); have HM_n := Aside0.mk (blk_apart HM.out.1 HM.out.2 hf1 (by decide)); have HP_n := Aside0.mk (blk_apart HP.out.1 HP.out.2 hf1 (by decide)); clear HKa F C HM HP; have HKa := HKa_n; have F := F_n; have C := C_n; have HM := HM_n; have HP := HP_n; clear HKa_n F_n C_n HM_n HP_n; clear hk1 hf1)
            clear p5
            have HKa_n := HKa.out
            rw [HCR.out] at HKa_n
            clear HKa HPK
            have HKa := Aside0.mk HKa_n; clear HKa_n
            go_upto_region 19 with (go_at_call 33; (with_reducible refine (HRD.out _ _ _ _ _ _ _ _ _ HKa.out HF2.out).mono ?_); rintro e w1 ⟨rfl, hb1⟩; have HKa_n := Aside0.mk (HKa.out.below hb1); have F_n := Aside0.mk (F.out.below hb1); have HM_n := Aside0.mk (And.intro (blk_below HM.out.1 hb1) HM.out.2); have HP_n := Aside0.mk (And.intro (blk_below HP.out.1 hb1) HP.out.2); clear HKa F HM HP; have HKa := HKa_n; have F := F_n; have HM := HM_n; have HP := HP_n; clear HKa_n F_n HM_n HP_n; clear hb1; have hb2 := (Below.refl w1.heap.size w1).alloc (Nat.le_refl _) (.cells #[.int .i64 c2, .int .i64 l2] 61); have H13 := Aside0.mk (And.intro (heap_alloc_new w1 (.cells #[.int .i64 c2, .int .i64 l2] 61)) (c2_new C.out (Nat.le_refl w1.heap.size))); have HKa_n := Aside0.mk ((HKa.out.paint 2).below hb2); have F_n := Aside0.mk (F.out.below hb2); have C_n := Aside0.mk (C.out.paint 2 F.out.size); have HM_n := Aside0.mk (And.intro (blk_below HM.out.1 hb2) ((paint_old (x := 2) (blk_lt HM.out.1)).trans HM.out.2)); have HP_n := Aside0.mk (And.intro (blk_below HP.out.1 hb2) ((paint_old (x := 2) (blk_lt HP.out.1)).trans HP.out.2)); clear HKa F C HM HP; have HKa := HKa_n; have F := F_n; have C := C_n; have HM := HM_n; have HP := HP_n; clear HKa_n F_n C_n HM_n HP_n; clear hb2)
            generalize w1.alloc (.cells #[.int .i64 c2, .int .i64 l2] 61) = X at *
            generalize w1.heap.size = m13 at *
            have n0 : X.cell? ⟨m13, 0, none⟩ = some (.int .i64 c2) := blk_cell H13.out.1 0
            have n1 : X.cell? ⟨m13, 1, none⟩ = some (.int .i64 l2) := blk_cell H13.out.1 1
            have p3 : X.cell? ⟨ob, 3, none⟩ = some (.int .i64 o_.f3.f0) := blk_cell HP.out.1 3
            have p4 : X.cell? ⟨ob, 4, none⟩ = some (.int .i64 o_.f3.f1) := blk_cell HP.out.1 4
            have a0 : X.cell? ⟨wt, 0, none⟩ = some (.int .i64 c) := blk_cell HM.out.1 0
            have a1 : X.cell? ⟨wt, 1, none⟩ = some (.int .i64 l') := blk_cell HM.out.1 1
            have mf0 := blk_frozen HM.out.1 0; have mf1 := blk_frozen HM.out.1 1
            rcases HOR.out with ⟨e1, e2⟩ | ⟨e1, e2, e3⟩
            · rw [← e1] at p3
              rw [← e2] at p4
              clear e1 e2
              by_cases hE : E = 0
              · have hEE : (E == 0) = true := by simp [hE]
                clear hE
                go_wp2
                go_roundw
                case rel => exact ⟨k + 1, U, a, b, c2, l2, _, by first | rw [hwk] | go_num, ⟨HLT.out⟩, ⟨by have := TK.out; have := HU.out; omega⟩, ⟨(HKa.out.stored HM.out.2 (by decide) 0 _).stored HM.out.2 (by decide) 1 _⟩, C, ⟨(F.out.setCell (p := ⟨wt, 0, none⟩) (.inl HGM.out) _).setCell (p := ⟨wt, 1, none⟩) (.inl HGM.out) _⟩, ⟨And.intro (set_blk (set_blk HM.out.1 0 _) 1 _) HM.out.2⟩, HIN⟩
                case measure =>
                  try rw [hwk]
                  have := HLT.out
                  simp [intOf]; omega
              · have hEE : (E == 0) = false := by simp [hE]
                clear hE
                go_wp2
                go_roundw
                case rel => exact ⟨k + 1, U, a, b, c2, l2, _, by first | rw [hwk] | go_num, ⟨HLT.out⟩, ⟨by have := TK.out; have := HU.out; omega⟩, ⟨(HKa.out.stored HM.out.2 (by decide) 0 _).stored HM.out.2 (by decide) 1 _⟩, C, ⟨(F.out.setCell (p := ⟨wt, 0, none⟩) (.inl HGM.out) _).setCell (p := ⟨wt, 1, none⟩) (.inl HGM.out) _⟩, ⟨And.intro (set_blk (set_blk HM.out.1 0 _) 1 _) HM.out.2⟩, HIN⟩
                case measure =>
                  try rw [hwk]
                  have := HLT.out
                  simp [intOf]; omega
            · rw [← e1] at a0
              rw [← e2] at a1
              subst e3
              by_cases hq : c2 = o_.f3.f0 ∧ l2 = o_.f3.f1
              · rw [← hq.1] at p3
                rw [← hq.2] at p4
                clear hq e1 e2
                go_wp2
                go_roundw
                case rel => exact ⟨k + 1, U, a, b, c2, l2, _, by first | rw [hwk] | go_num, ⟨HLT.out⟩, ⟨by have := TK.out; have := HU.out; omega⟩, ⟨(HKa.out.stored HM.out.2 (by decide) 0 _).stored HM.out.2 (by decide) 1 _⟩, C, ⟨(F.out.setCell (p := ⟨wt, 0, none⟩) (.inl HGM.out) _).setCell (p := ⟨wt, 1, none⟩) (.inl HGM.out) _⟩, ⟨And.intro (set_blk (set_blk HM.out.1 0 _) 1 _) HM.out.2⟩, HIN⟩
                case measure =>
                  try rw [hwk]
                  have := HLT.out
                  simp [intOf]; omega
              · clear e1 e2
                have HQ := Aside0.mk hq; clear hq
                go_wp2
                all_goals
                  go_roundw
                  case rel => exact ⟨k + 1, U, a, b, c2, l2, _, by first | rw [hwk] | go_num, ⟨HLT.out⟩, ⟨by have := TK.out; have := HU.out; omega⟩, ⟨(HKa.out.stored HM.out.2 (by decide) 0 _).stored HM.out.2 (by decide) 1 _⟩, C, ⟨(F.out.setCell (p := ⟨wt, 0, none⟩) (.inl HGM.out) _).setCell (p := ⟨wt, 1, none⟩) (.inl HGM.out) _⟩, ⟨And.intro (by first | exact set_blk (set_blk HM.out.1 0 _) 1 _ | (have e : c2 = o_.f3.f0 := (by assumption); have e' : l2 = o_.f3.f1 := (by assumption); exact absurd ⟨e, e'⟩ HQ.out) | (have e : c2 = o_.f3.f0 := (by assumption); rw [e]; exact set_blk (set_blk HM.out.1 0 _) 1 _) | (have e : l2 = o_.f3.f1 := (by assumption); rw [e]; exact set_blk (set_blk HM.out.1 0 _) 1 _)) HM.out.2⟩, HIN⟩
                  case measure =>
                    try rw [hwk]
                    have := HLT.out
                    simp [intOf]; omega
      · obtain rfl : k = l.length := by have := K.out; omega
        clear hlt
        go_wp2
        go_ret
        exact ⟨rfl, FS.up F.out (Nat.le_refl _)⟩
open Classical in
noncomputable def careenlaw12_MasterOne.f (l0 : List S74) : Option Bool := if OkM l0 then some true else none
theorem careenlaw12_MasterOne.calls (A0 : Option Addr) (c0 : Nat) (l0 : List (S74)) (r : Bool) (w : World) (hr0 : Kd.C k74 w A0 l0.length l0) (hc0 : l0.length ≤ c0) (h : careenlaw12_MasterOne.f l0 = some r) :
    Calls Try.prog 11 #[.slice A0 l0.length c0] w fun e w' => e = .returned (.bool r) ∧ Below w.heap.size w w' := by
  unfold careenlaw12_MasterOne.f at h
  by_cases ho : OkM l0
  · rw [if_pos ho] at h
    obtain rfl := Option.some.inj h
    exact mone_walk A0 c0 l0 w hr0 hc0 ho
  · rw [if_neg ho] at h
    cases h
end Go.Proofs.Ytbdfdfahpdilpaa.X12
