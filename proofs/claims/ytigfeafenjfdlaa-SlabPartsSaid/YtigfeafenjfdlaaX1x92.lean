import Derived.Test.YtigfeafenjfdlaaX1x91
import Derived.Test.YtigfeafenjfdlaaWTab
/-! Layer 1: the walk of SlabParts. -/
namespace Go.Proofs.Ytigfeafenjfdlaa.X1
open Go Go.RowKit Go.Proofs.YtigfeafenjfdlaaW.PrintWords Go.Proofs.YtigfeafenjfdlaaW.PrintLast Go.Proofs.YtigfeafenjfdlaaW.PrintMore Go.Proofs.Ytigfeafenjfdlaa.Slab
set_option linter.unusedVariables false
set_option linter.unusedSimpArgs false
theorem parts (e i : Int) (b s : ByteArray) (he : 0 ≤ e ∧ e < 4294967296) (hi : 0 ≤ i ∧ i < 4294967296) (hb : b.size ≤ 112) (h : bl s = secL e i (bl b)) (hs : s.size = 128) :
    careenref01_Number.f (s.extract 0 4) = some e ∧ careenref01_Number.f (s.extract 4 8) = some i ∧ (s[8]'(by omega)).toNat = 0 ∧ (s[9]'(by omega)).toNat = b.size ∧ s.extract 12 (12 + b.size) = b ∧ s.extract 124 128 = mk (leL (n32 (crc (s.extract 0 124)))) := by
  have hbl : (bl b).length ≤ 112 := by rw [bl_len]; exact hb
  have r := read_sec e i (bl b) he hi hbl
  rw [← h] at r
  unfold readL at r
  simp only [Prod.mk.injEq] at r
  have k := sec_ok e i (bl b) hbl
  rw [← h] at k
  have x0 : (s.extract 0 4).size = 4 := by rw [ByteArray.size_extract]; omega
  have x1 : (s.extract 4 8).size = 4 := by rw [ByteArray.size_extract]; omega
  have g8 : (bl s).getD 8 0 = 0 := by rw [h]; rfl
  have g9 : (bl s).getD 9 0 = UInt8.ofNat (bl b).length := by rw [h]; rfl
  have a8 : (bl s).getD 8 0 = s[8]'(by omega) := by
    rw [List.getD_eq_getElem?_getD, List.getElem?_eq_getElem (by rw [bl_len]; omega)]; exact Array.getElem_toList ..
  have a9 : (bl s).getD 9 0 = s[9]'(by omega) := by
    rw [List.getD_eq_getElem?_getD, List.getElem?_eq_getElem (by rw [bl_len]; omega)]; exact Array.getElem_toList ..
  have h9 : (UInt8.ofNat (bl b).length).toNat = b.size := by rw [UInt8.toNat_ofNat', bl_len]; omega
  refine ⟨?_, ?_, ?_, ?_, ?_, ?_⟩
  · rw [number_eq _ (by omega), numB_cut s 0 4 (by omega) (by omega)]; exact congrArg some r.1
  · rw [number_eq _ (by omega), numB_cut s 4 8 (by omega) (by omega)]; exact congrArg some r.2.1
  · rw [← a8, g8]; rfl
  · rw [← a9, g9]; exact h9
  · apply bl_ext
    have q := r.2.2
    rw [g9, h9] at q
    rw [bl_cut]
    rw [show 12 + b.size - 12 = b.size by omega]
    exact q
  · apply bl_ext
    rw [bl_mk, bl_cut, crc_bl, bl_cut]
    simp only [List.drop_zero, Nat.sub_zero]
    rw [← k.2, List.take_of_length_le]
    rw [List.length_drop, k.1]
    omega
theorem four_conv (w : World) (c : Int) (hc : 0 ≤ c ∧ c < 4294967296) : (convert 37 9 (.slice (some ⟨w.heap.size, 0, none⟩) 4 4)).run Try.prog (w.alloc (Obj.cells #[.int .u8 (IntKind.u8.wrap c), .int .u8 (IntKind.u8.wrap (c / 256)), .int .u8 (IntKind.u8.wrap (c / 65536)), .int .u8 (IntKind.u8.wrap (c / 16777216))] 5)) = .ok (.string (mk (leL c))) (w.alloc (Obj.cells #[.int .u8 (IntKind.u8.wrap c), .int .u8 (IntKind.u8.wrap (c / 256)), .int .u8 (IntKind.u8.wrap (c / 65536)), .int .u8 (IntKind.u8.wrap (c / 16777216))] 5)) := by
  have b0 := heap_alloc_new w (Obj.cells #[.int .u8 (IntKind.u8.wrap c), .int .u8 (IntKind.u8.wrap (c / 256)), .int .u8 (IntKind.u8.wrap (c / 65536)), .int .u8 (IntKind.u8.wrap (c / 16777216))] 5)
  refine run_convert_bytes_back _ 37 9 5 ⟨w.heap.size, 0, none⟩ 4 (leL c) rfl rfl rfl (fun j hj => ?_)
  have hj : j = 0 ∨ j = 1 ∨ j = 2 ∨ j = 3 := by change j < 4 at hj; omega
  rw [add_plain]
  have e : ∀ x : Int, 0 ≤ x → x < 256 → ((UInt8.ofNat x.toNat).toNat : Int) = x := fun x h0 h1 => by rw [UInt8.toNat_ofNat']; omega
  rcases hj with rfl | rfl | rfl | rfl
  · refine (blk_cell b0 0).trans ?_
    show some (Value.int .u8 (IntKind.u8.wrap c)) = some (.int .u8 (((le c 0).toNat : Nat) : Int))
    rw [IntKind.wrap_u8]
    unfold le
    rw [show (2 : Int) ^ (8 * 0) = 1 from rfl, Int.ediv_one, e _ (by omega) (by omega)]
  · refine (blk_cell b0 1).trans ?_
    show some (Value.int .u8 (IntKind.u8.wrap (c / 256))) = some (.int .u8 (((le c 1).toNat : Nat) : Int))
    rw [IntKind.wrap_u8]
    unfold le
    rw [show (2 : Int) ^ (8 * 1) = 256 from rfl, e _ (by omega) (by omega)]
  · refine (blk_cell b0 2).trans ?_
    show some (Value.int .u8 (IntKind.u8.wrap (c / 65536))) = some (.int .u8 (((le c 2).toNat : Nat) : Int))
    rw [IntKind.wrap_u8]
    unfold le
    rw [show (2 : Int) ^ (8 * 2) = 65536 from rfl, e _ (by omega) (by omega)]
  · refine (blk_cell b0 3).trans ?_
    show some (Value.int .u8 (IntKind.u8.wrap (c / 16777216))) = some (.int .u8 (((le c 3).toNat : Nat) : Int))
    rw [IntKind.wrap_u8]
    unfold le
    rw [show (2 : Int) ^ (8 * 3) = 16777216 from rfl, e _ (by omega) (by omega)]
def partsT.T5 : Bool × List (List Nat × List Nat) := (true, [([], []), ([0], [0]), ([1], [1]), ([], []), ([3], [3]), ([2, 4], [2, 4]), ([5, 2], [5]), ([6], [6]), ([7, 6], [6, 7]), ([8, 6, 6], [6, 8]), ([6], [6]), ([10, 6], [6, 10]), ([9, 11, 6], [6, 9, 11]), ([6, 12], [6, 12]), ([13, 9], [13]), ([14], [14]), ([15, 14], [14, 15]), ([16, 14], [14, 16]), ([17, 14], [14, 17]), ([14], [14]), ([19, 14], [14, 19]), ([20, 14], [14, 20]), ([18, 21, 14], [14, 18, 21]), ([14], [14]), ([23, 14], [14, 23]), ([24, 14], [14, 24]), ([22, 25, 14], [14, 22, 25]), ([14, 26], [14, 26]), ([27, 14], [27]), ([28], [28]), ([28], [28]), ([30, 28], [28, 30]), ([31, 28], [28, 31]), ([32, 28], [28, 32]), ([29, 33, 28], [28, 29, 33]), ([28], [28]), ([35, 28], [28, 35]), ([34, 36, 28], [28, 34, 36]), ([28, 37], [28, 37]), ([38, 28], [38]), ([39], [39]), ([40, 39], [39, 40]), ([39], [39]), ([42, 39], [39, 42]), ([39], [39]), ([44, 39], [39, 44]), ([45, 39], [39, 45]), ([39], [39]), ([47, 39], [39, 47]), ([48, 39], [39, 48]), ([39], [39]), ([50, 39], [39, 50]), ([51, 39], [39, 51]), ([43, 46, 49, 52, 39], [39, 43, 46, 49, 52]), ([53, 39], [39, 53]), ([41, 54, 39], [39, 41, 54]), ([39, 55], [39, 55]), ([56, 39, 0, 1, 2, 3, 4, 5, 6, 7, 8, 9, 10, 11, 12, 13, 14, 15, 16, 17, 18, 19, 20, 21, 22, 23, 24, 25, 26, 27, 28, 29, 30, 31, 32, 33, 34, 35, 36, 37, 38, 39, 40, 41, 42, 43, 44, 45, 46, 47, 48, 49, 50, 51, 52, 53, 54, 55, 56], [56])])
def partsT.B5 : List Nat := [0, 1, 3, 0, 8, 31, 63, 127, 255, 511, 127, 1151, 4095, 8191, 16383, 32767, 65535, 131071, 262143, 32767, 557055, 1605631, 4194303, 32767, 8421375, 25198591, 67108863, 134217727, 268435455, 536870911, 536870911, 1610612735, 3758096383, 8053063679, 17179869183, 536870911, 34896609279, 137438953471, 274877906943, 549755813887, 1099511627775, 2199023255551, 1099511627775, 5497558138879, 1099511627775, 18691697672191, 53876069761023, 1099511627775, 141836999983103, 423311976693759, 1099511627775, 1126999418470399, 3378799232155647, 9003900719857663, 18011099974598655, 36028797018963967, 72057594037927935, 144115188075855871]
theorem partsT.tab5 : rtab .any (opsOf Try.f7 5) = partsT.T5 := by kernel_rfl
theorem partsT.bits5 : waitsOk partsT.T5.2 partsT.B5 = true := by kernel_rfl
set_option maxHeartbeats 4000000 in
theorem parts_walk (e i : Int) (b : ByteArray) (he : 0 ≤ e ∧ e < 4294967296) (hi : 0 ≤ i ∧ i < 4294967296) (w : World) :
    Calls Try.prog 7 #[.agg #[.int .u32 e, .int .u32 i, .string b]] w fun x w' => x = .returned (.bool true) ∧ Below w.heap.size w w' := by
  have HB := Aside0.mk (Below.refl w.heap.size w)
  have hp := pack_eq e i b he hi
  by_cases hb : b.size ≤ 112
  · obtain ⟨h1, h2⟩ := packI_bl e i b he hi hb
    generalize packI e i b = p at *
    obtain ⟨s, q⟩ := p
    simp only at h1 h2
    subst h2
    have HP := Aside0.mk hp
    have hs : s.size = 128 := by rw [← bl_len, h1, secL_len e i _ (by rw [bl_len]; exact hb)]
    have hsz : (s.size : Int) = 128 := by omega
    obtain ⟨p0, p1, p8, p9, p12, p124⟩ := parts e i b s he hi hb h1 hs
    have P0 := Aside0.mk p0; have P1 := Aside0.mk p1; have P124 := Aside0.mk p124
    have hS : slab_Sum.f (s.extract 0 124) = some (n32 (crc (s.extract 0 124))) := if_pos (by rw [ByteArray.size_extract]; omega)
    have hS2 := n32_lt (crc (s.extract 0 124))
    generalize n32 (crc (s.extract 0 124)) = c at *
    have HS := Aside0.mk hS
    have hbi : (b.size : Int) ≤ 112 := by omega
    have hw0 : wrap64 0 = 0 := w64 (by omega) (by omega)
    have hw9 : wrap64 (b.size : Int) = (b.size : Int) := w64 (by omega) (by omega)
    have hw12 : wrap64 (12 + (b.size : Int)) = 12 + (b.size : Int) := w64 (by omega) (by omega)
    have hz : (0 : Int) * 256 = 0 := rfl
    have hs0 : (12 : Int) ≤ 12 + (b.size : Int) := by omega
    have hs1 : 12 + (b.size : Int) ≤ (s.size : Int) := by omega
    have hs2 : (12 + (b.size : Int)).toNat = 12 + b.size := by omega
    have hs3 : (0 : Int) ≤ 12 + (b.size : Int) := by omega
    have hs4 : 12 + (b.size : Int) ≤ 128 := by omega
    have hza : (0 : Int) + (b.size : Int) = (b.size : Int) := Int.zero_add _
    have z8 : ((s[8].toNat : Nat) : Int) = 0 := by rw [p8]; rfl
    have z9 : ((s[9].toNat : Nat) : Int) = (b.size : Int) := by rw [p9]
    clear hp h1 p0 p1 p124 hS p8 p9 hb
    go_enter Try.func7, Try.ntmps7
    go_upto_region 1 with (fail)
    have b0 := heap_alloc_new w (Obj.cells #[.int .u32 e, .int .u32 i, .string b] 24)
    have n_ := Aside0.mk (HB.out.alloc HB.out.size (Obj.cells #[.int .u32 e, .int .u32 i, .string b] 24))
    have hlt : w.heap.size < (w.alloc (Obj.cells #[.int .u32 e, .int .u32 i, .string b] 24)).heap.size := blk_lt b0
    clear HB; have HB := n_; clear n_
    generalize w.alloc (Obj.cells #[.int .u32 e, .int .u32 i, .string b] 24) = w0 at *
    have c0 := blk_cell b0 0; have c1 := blk_cell b0 1; have c2 := blk_cell b0 2
    have HX := Aside0.mk (Below.refl w0.heap.size w0)
    clear b0
    go_upto_region 5 with (first | (go_at_call 10; refine (slab_Pack.calls e i b s 0 _ HP.out).mono ?_; rintro x w1 ⟨rfl, hb1⟩; have n_ := Aside0.mk (Arr.below_trans HX.out hb1); clear HX; have HX := n_; clear n_ hb1) | (go_at_call 9; refine (careenlaw01_awake.go _).mono ?_; rintro x w1 ⟨rfl, hb1⟩; have n_ := Aside0.mk (Arr.below_trans HX.out hb1); clear HX; have HX := n_; clear n_ hb1) | (go_at_call 11; refine (slab_Sum.calls (s.extract 0 124) c _ HS.out).mono ?_; rintro x w1 ⟨rfl, hb1⟩; have n_ := Aside0.mk (Arr.below_trans HX.out hb1); clear HX; have HX := n_; clear n_ hb1))
    have hc0 : w1.drew.cell? ⟨w.heap.size, 0, none⟩ = some (.int .u32 e) := (HX.out.cell (p := ⟨w.heap.size, 0, none⟩) hlt).trans c0
    have hc1 : w1.drew.cell? ⟨w.heap.size, 1, none⟩ = some (.int .u32 i) := (HX.out.cell (p := ⟨w.heap.size, 1, none⟩) hlt).trans c1
    have hc2 : w1.drew.cell? ⟨w.heap.size, 2, none⟩ = some (.string b) := (HX.out.cell (p := ⟨w.heap.size, 2, none⟩) hlt).trans c2
    have HX1 := Aside0.mk HX.out.drew
    clear c0 c1 c2 HX
    refine start_ (n := 58) (S := fun w' => w'.cell? ⟨w.heap.size, 0, none⟩ = some (.int .u32 e) ∧ w'.cell? ⟨w.heap.size, 1, none⟩ = some (.int .u32 i) ∧ w'.cell? ⟨w.heap.size, 2, none⟩ = some (.string b)) (ds := [53, 54]) #[false, false, false, false, false, false, false, false, false, false, false, false, false, false, false, false, false, false, false, false, false, false, false, false, false, false, false, false, false, false, false, false, false, false, false, false, false, false, false, false, false, false, false, false, false, false, false, false, false, false, false, false, false, false, false, false, false, false] (by kernel_rfl) rfl rfl ⟨hc0, hc1, hc2⟩ (fun hHeld => ?_)
    refine with_tabW partsT.tab5 partsT.bits5 (fun HT_ HW_ => ?_)
    refine pure_ (i := 0) (N := some 21) (v := (.string s)) (a' := ?_) #[true, false, false, false, false, false, false, false, false, false, false, false, false, false, false, false, false, false, false, false, false, false, false, false, false, false, false, false, false, false, false, false, false, false, false, false, false, false, false, false, false, false, false, false, false, false, false, false, false, false, false, false, false, false, false, false, false, false] rfl rfl (any_of HT_.out (by kernel_rfl)) (fun _ _ _ h => h) (Or.inl ⟨by kernel_rfl, fun w' => by kernel_rfl⟩) ?_ ?_
    rotate_left
    · simp only [Act.put, List.setIfInBounds_toArray, List.set_cons_zero, List.set_cons_succ, i64_w, i32_w]
      rfl
    refine pure_ (i := 1) (N := some 22) (v := ?_) (a' := ?_) #[true, true, false, false, false, false, false, false, false, false, false, false, false, false, false, false, false, false, false, false, false, false, false, false, false, false, false, false, false, false, false, false, false, false, false, false, false, false, false, false, false, false, false, false, false, false, false, false, false, false, false, false, false, false, false, false, false, false] rfl rfl (any_of HT_.out (by kernel_rfl)) (fun _ _ _ h => h) (Or.inl ⟨by kernel_rfl, ?_⟩) ?_ ?_
    rotate_left
    · intro w'
      go_simp
      with_reducible rfl
    rotate_left
    · simp only [Act.put, List.setIfInBounds_toArray, List.set_cons_zero, List.set_cons_succ, i64_w, i32_w]
      rfl
    refine pure_ (i := 3) (N := some 24) (v := (.pointer (some ⟨w.heap.size, 0, none⟩))) (a' := ?_) #[true, true, false, true, false, false, false, false, false, false, false, false, false, false, false, false, false, false, false, false, false, false, false, false, false, false, false, false, false, false, false, false, false, false, false, false, false, false, false, false, false, false, false, false, false, false, false, false, false, false, false, false, false, false, false, false, false, false] rfl rfl (any_of HT_.out (by kernel_rfl)) (fun _ _ _ h => h) (Or.inl ⟨by kernel_rfl, fun w' => by kernel_rfl⟩) ?_ ?_
    rotate_left
    · simp only [Act.put, List.setIfInBounds_toArray, List.set_cons_zero, List.set_cons_succ, i64_w, i32_w]
      rfl
    refine take_ (i := 4) (N := some 25) (v := ?_) (a' := ?_) #[true, true, false, true, true, false, false, false, false, false, false, false, false, false, false, false, false, false, false, false, false, false, false, false, false, false, false, false, false, false, false, false, false, false, false, false, false, false, false, false, false, false, false, false, false, false, false, false, false, false, false, false, false, false, false, false, false, false] rfl rfl (take_ofW HT_.out HW_.out (by kernel_rfl)) (fun _ _ _ h => h) (Or.inl ⟨by kernel_rfl, ?_⟩) hHeld ?_ ?_
    rotate_left
    · rintro w' ⟨s0_, s1_, s2_⟩
      go_simp
      with_reducible rfl
    rotate_left
    · simp only [Act.put, List.setIfInBounds_toArray, List.set_cons_zero, List.set_cons_succ, i64_w, i32_w]
      rfl
    refine one_ (i := 2) (N := some 23) #[true, true, true, true, true, false, false, false, false, false, false, false, false, false, false, false, false, false, false, false, false, false, false, false, false, false, false, false, false, false, false, false, false, false, false, false, false, false, false, false, false, false, false, false, false, false, false, false, false, false, false, false, false, false, false, false, false, false] rfl rfl (one_of HT_.out (by kernel_rfl)) (by decide) (fun K hK => ?_)
    refine goes_ Try.func16 (by kernel_rfl) rfl #[.string (s.extract 0 4)] (by rfl) rfl rfl (by (try simp only [List.map_toArray, List.map_cons, List.map_nil]); first | done | rfl) ?_
    refine (careenref01_Number.calls (s.extract 0 4) e _ P0.out).mono ?_
    rintro x w2 ⟨rfl, hb2⟩
    refine ⟨_, rfl, ?_⟩
    have HX2 := Aside0.mk ((Arr.below_trans HX1.out (Drawn0.below hb2)))
    refine hK _ _ ⟨(HX2.out.cell (p := ⟨w.heap.size, 0, none⟩) hlt).trans ((HX1.out.cell (p := ⟨w.heap.size, 0, none⟩) hlt).symm.trans hc0), (HX2.out.cell (p := ⟨w.heap.size, 1, none⟩) hlt).trans ((HX1.out.cell (p := ⟨w.heap.size, 1, none⟩) hlt).symm.trans hc1), (HX2.out.cell (p := ⟨w.heap.size, 2, none⟩) hlt).trans ((HX1.out.cell (p := ⟨w.heap.size, 2, none⟩) hlt).symm.trans hc2)⟩ (fun hHeld => ?_)
    clear hK K hb2
    refine norm_ (a' := ?_) ?_ ?_
    rotate_left
    · show Act.put _ (some 23) _ = _
      simp only [Act.put, List.setIfInBounds_toArray, List.set_cons_zero, List.set_cons_succ, i64_w, i32_w]
      rfl
    refine pure_ (i := 5) (N := some 26) (v := ?_) (a' := ?_) #[true, true, true, true, true, true, false, false, false, false, false, false, false, false, false, false, false, false, false, false, false, false, false, false, false, false, false, false, false, false, false, false, false, false, false, false, false, false, false, false, false, false, false, false, false, false, false, false, false, false, false, false, false, false, false, false, false, false] rfl rfl (any_of HT_.out (by kernel_rfl)) (fun _ _ _ h => h) (Or.inl ⟨by kernel_rfl, ?_⟩) ?_ ?_
    rotate_left
    · intro w'
      go_simp
      with_reducible rfl
    rotate_left
    · simp only [Act.put, List.setIfInBounds_toArray, List.set_cons_zero, List.set_cons_succ, i64_w, i32_w]
      rfl
    refine pure_ (i := 6) (N := some 27) (v := (.bool true)) (a' := ?_) #[true, true, true, true, true, true, true, false, false, false, false, false, false, false, false, false, false, false, false, false, false, false, false, false, false, false, false, false, false, false, false, false, false, false, false, false, false, false, false, false, false, false, false, false, false, false, false, false, false, false, false, false, false, false, false, false, false, false] rfl rfl (any_of HT_.out (by kernel_rfl)) (fun _ _ _ h => h) (Or.inl ⟨by kernel_rfl, fun w' => by kernel_rfl⟩) ?_ ?_
    rotate_left
    · simp only [Act.put, List.setIfInBounds_toArray, List.set_cons_zero, List.set_cons_succ, i64_w, i32_w]
      rfl
    refine pure_ (i := 7) (N := some 28) (v := (.string s)) (a' := ?_) #[true, true, true, true, true, true, true, true, false, false, false, false, false, false, false, false, false, false, false, false, false, false, false, false, false, false, false, false, false, false, false, false, false, false, false, false, false, false, false, false, false, false, false, false, false, false, false, false, false, false, false, false, false, false, false, false, false, false] rfl rfl (any_of HT_.out (by kernel_rfl)) (fun _ _ _ h => h) (Or.inl ⟨by kernel_rfl, fun w' => by kernel_rfl⟩) ?_ ?_
    rotate_left
    · simp only [Act.put, List.setIfInBounds_toArray, List.set_cons_zero, List.set_cons_succ, i64_w, i32_w]
      rfl
    refine pure_ (i := 8) (N := some 29) (v := ?_) (a' := ?_) #[true, true, true, true, true, true, true, true, true, false, false, false, false, false, false, false, false, false, false, false, false, false, false, false, false, false, false, false, false, false, false, false, false, false, false, false, false, false, false, false, false, false, false, false, false, false, false, false, false, false, false, false, false, false, false, false, false, false] rfl rfl (any_of HT_.out (by kernel_rfl)) (fun _ _ _ h => h) (Or.inl ⟨by kernel_rfl, ?_⟩) ?_ ?_
    rotate_left
    · intro w'
      go_simp
      with_reducible rfl
    rotate_left
    · simp only [Act.put, List.setIfInBounds_toArray, List.set_cons_zero, List.set_cons_succ, i64_w, i32_w]
      rfl
    refine pure_ (i := 10) (N := some 31) (v := (.pointer (some ⟨w.heap.size, 1, none⟩))) (a' := ?_) #[true, true, true, true, true, true, true, true, true, false, true, false, false, false, false, false, false, false, false, false, false, false, false, false, false, false, false, false, false, false, false, false, false, false, false, false, false, false, false, false, false, false, false, false, false, false, false, false, false, false, false, false, false, false, false, false, false, false] rfl rfl (any_of HT_.out (by kernel_rfl)) (fun _ _ _ h => h) (Or.inl ⟨by kernel_rfl, fun w' => by kernel_rfl⟩) ?_ ?_
    rotate_left
    · simp only [Act.put, List.setIfInBounds_toArray, List.set_cons_zero, List.set_cons_succ, i64_w, i32_w]
      rfl
    refine take_ (i := 11) (N := some 32) (v := ?_) (a' := ?_) #[true, true, true, true, true, true, true, true, true, false, true, true, false, false, false, false, false, false, false, false, false, false, false, false, false, false, false, false, false, false, false, false, false, false, false, false, false, false, false, false, false, false, false, false, false, false, false, false, false, false, false, false, false, false, false, false, false, false] rfl rfl (take_ofW HT_.out HW_.out (by kernel_rfl)) (fun _ _ _ h => h) (Or.inl ⟨by kernel_rfl, ?_⟩) hHeld ?_ ?_
    rotate_left
    · rintro w' ⟨s0_, s1_, s2_⟩
      go_simp
      with_reducible rfl
    rotate_left
    · simp only [Act.put, List.setIfInBounds_toArray, List.set_cons_zero, List.set_cons_succ, i64_w, i32_w]
      rfl
    refine one_ (i := 9) (N := some 30) #[true, true, true, true, true, true, true, true, true, true, true, true, false, false, false, false, false, false, false, false, false, false, false, false, false, false, false, false, false, false, false, false, false, false, false, false, false, false, false, false, false, false, false, false, false, false, false, false, false, false, false, false, false, false, false, false, false, false] rfl rfl (one_of HT_.out (by kernel_rfl)) (by decide) (fun K hK => ?_)
    refine goes_ Try.func16 (by kernel_rfl) rfl #[.string (s.extract 4 8)] (by rfl) rfl rfl (by (try simp only [List.map_toArray, List.map_cons, List.map_nil]); first | done | rfl) ?_
    refine (careenref01_Number.calls (s.extract 4 8) i _ P1.out).mono ?_
    rintro x w3 ⟨rfl, hb3⟩
    refine ⟨_, rfl, ?_⟩
    have HX3 := Aside0.mk ((Arr.below_trans HX2.out (Drawn0.below hb3)))
    refine hK _ _ ⟨(HX3.out.cell (p := ⟨w.heap.size, 0, none⟩) hlt).trans ((HX1.out.cell (p := ⟨w.heap.size, 0, none⟩) hlt).symm.trans hc0), (HX3.out.cell (p := ⟨w.heap.size, 1, none⟩) hlt).trans ((HX1.out.cell (p := ⟨w.heap.size, 1, none⟩) hlt).symm.trans hc1), (HX3.out.cell (p := ⟨w.heap.size, 2, none⟩) hlt).trans ((HX1.out.cell (p := ⟨w.heap.size, 2, none⟩) hlt).symm.trans hc2)⟩ (fun hHeld => ?_)
    clear hK K hb3
    refine norm_ (a' := ?_) ?_ ?_
    rotate_left
    · show Act.put _ (some 30) _ = _
      simp only [Act.put, List.setIfInBounds_toArray, List.set_cons_zero, List.set_cons_succ, i64_w, i32_w]
      rfl
    refine pure_ (i := 12) (N := some 33) (v := ?_) (a' := ?_) #[true, true, true, true, true, true, true, true, true, true, true, true, true, false, false, false, false, false, false, false, false, false, false, false, false, false, false, false, false, false, false, false, false, false, false, false, false, false, false, false, false, false, false, false, false, false, false, false, false, false, false, false, false, false, false, false, false, false] rfl rfl (any_of HT_.out (by kernel_rfl)) (fun _ _ _ h => h) (Or.inl ⟨by kernel_rfl, ?_⟩) ?_ ?_
    rotate_left
    · intro w'
      go_simp
      with_reducible rfl
    rotate_left
    · simp only [Act.put, List.setIfInBounds_toArray, List.set_cons_zero, List.set_cons_succ, i64_w, i32_w]
      rfl
    refine pure_ (i := 13) (N := some 34) (v := (.bool true)) (a' := ?_) #[true, true, true, true, true, true, true, true, true, true, true, true, true, true, false, false, false, false, false, false, false, false, false, false, false, false, false, false, false, false, false, false, false, false, false, false, false, false, false, false, false, false, false, false, false, false, false, false, false, false, false, false, false, false, false, false, false, false] rfl rfl (any_of HT_.out (by kernel_rfl)) (fun _ _ _ h => h) (Or.inl ⟨by kernel_rfl, fun w' => by kernel_rfl⟩) ?_ ?_
    rotate_left
    · simp only [Act.put, List.setIfInBounds_toArray, List.set_cons_zero, List.set_cons_succ, i64_w, i32_w]
      rfl
    refine pure_ (i := 14) (N := some 35) (v := (.bool true)) (a' := ?_) #[true, true, true, true, true, true, true, true, true, true, true, true, true, true, true, false, false, false, false, false, false, false, false, false, false, false, false, false, false, false, false, false, false, false, false, false, false, false, false, false, false, false, false, false, false, false, false, false, false, false, false, false, false, false, false, false, false, false] rfl rfl (any_of HT_.out (by kernel_rfl)) (fun _ _ _ h => h) (Or.inl ⟨by kernel_rfl, fun w' => by kernel_rfl⟩) ?_ ?_
    rotate_left
    · simp only [Act.put, List.setIfInBounds_toArray, List.set_cons_zero, List.set_cons_succ, i64_w, i32_w]
      rfl
    refine pure_ (i := 15) (N := some 36) (v := (.string s)) (a' := ?_) #[true, true, true, true, true, true, true, true, true, true, true, true, true, true, true, true, false, false, false, false, false, false, false, false, false, false, false, false, false, false, false, false, false, false, false, false, false, false, false, false, false, false, false, false, false, false, false, false, false, false, false, false, false, false, false, false, false, false] rfl rfl (any_of HT_.out (by kernel_rfl)) (fun _ _ _ h => h) (Or.inl ⟨by kernel_rfl, fun w' => by kernel_rfl⟩) ?_ ?_
    rotate_left
    · simp only [Act.put, List.setIfInBounds_toArray, List.set_cons_zero, List.set_cons_succ, i64_w, i32_w]
      rfl
    refine pure_ (i := 16) (N := some 37) (v := ?_) (a' := ?_) #[true, true, true, true, true, true, true, true, true, true, true, true, true, true, true, true, true, false, false, false, false, false, false, false, false, false, false, false, false, false, false, false, false, false, false, false, false, false, false, false, false, false, false, false, false, false, false, false, false, false, false, false, false, false, false, false, false, false] rfl rfl (any_of HT_.out (by kernel_rfl)) (fun _ _ _ h => h) (Or.inl ⟨by kernel_rfl, ?_⟩) ?_ ?_
    rotate_left
    · intro w'
      go_simp
      with_reducible rfl
    rotate_left
    · simp only [Act.put, List.setIfInBounds_toArray, List.set_cons_zero, List.set_cons_succ, i64_w, i32_w]
      rfl
    refine pure_ (i := 17) (N := some 38) (v := ?_) (a' := ?_) #[true, true, true, true, true, true, true, true, true, true, true, true, true, true, true, true, true, true, false, false, false, false, false, false, false, false, false, false, false, false, false, false, false, false, false, false, false, false, false, false, false, false, false, false, false, false, false, false, false, false, false, false, false, false, false, false, false, false] rfl rfl (any_of HT_.out (by kernel_rfl)) (fun _ _ _ h => h) (Or.inl ⟨by kernel_rfl, ?_⟩) ?_ ?_
    rotate_left
    · intro w'
      go_simp
      with_reducible rfl
    rotate_left
    · simp only [Act.put, List.setIfInBounds_toArray, List.set_cons_zero, List.set_cons_succ, i64_w, i32_w]
      rfl
    refine pure_ (i := 18) (N := some 39) (v := ?_) (a' := ?_) #[true, true, true, true, true, true, true, true, true, true, true, true, true, true, true, true, true, true, true, false, false, false, false, false, false, false, false, false, false, false, false, false, false, false, false, false, false, false, false, false, false, false, false, false, false, false, false, false, false, false, false, false, false, false, false, false, false, false] rfl rfl (any_of HT_.out (by kernel_rfl)) (fun _ _ _ h => h) (Or.inl ⟨by kernel_rfl, ?_⟩) ?_ ?_
    rotate_left
    · intro w'
      go_simp
      with_reducible rfl
    rotate_left
    · simp only [Act.put, List.setIfInBounds_toArray, List.set_cons_zero, List.set_cons_succ, i64_w, i32_w]
      rfl
    refine pure_ (i := 19) (N := some 40) (v := (.string s)) (a' := ?_) #[true, true, true, true, true, true, true, true, true, true, true, true, true, true, true, true, true, true, true, true, false, false, false, false, false, false, false, false, false, false, false, false, false, false, false, false, false, false, false, false, false, false, false, false, false, false, false, false, false, false, false, false, false, false, false, false, false, false] rfl rfl (any_of HT_.out (by kernel_rfl)) (fun _ _ _ h => h) (Or.inl ⟨by kernel_rfl, fun w' => by kernel_rfl⟩) ?_ ?_
    rotate_left
    · simp only [Act.put, List.setIfInBounds_toArray, List.set_cons_zero, List.set_cons_succ, i64_w, i32_w]
      rfl
    refine pure_ (i := 20) (N := some 41) (v := ?_) (a' := ?_) #[true, true, true, true, true, true, true, true, true, true, true, true, true, true, true, true, true, true, true, true, true, false, false, false, false, false, false, false, false, false, false, false, false, false, false, false, false, false, false, false, false, false, false, false, false, false, false, false, false, false, false, false, false, false, false, false, false, false] rfl rfl (any_of HT_.out (by kernel_rfl)) (fun _ _ _ h => h) (Or.inl ⟨by kernel_rfl, ?_⟩) ?_ ?_
    rotate_left
    · intro w'
      go_simp
      with_reducible rfl
    rotate_left
    · simp only [Act.put, List.setIfInBounds_toArray, List.set_cons_zero, List.set_cons_succ, i64_w, i32_w]
      rfl
    refine pure_ (i := 21) (N := some 42) (v := ?_) (a' := ?_) #[true, true, true, true, true, true, true, true, true, true, true, true, true, true, true, true, true, true, true, true, true, true, false, false, false, false, false, false, false, false, false, false, false, false, false, false, false, false, false, false, false, false, false, false, false, false, false, false, false, false, false, false, false, false, false, false, false, false] rfl rfl (any_of HT_.out (by kernel_rfl)) (fun _ _ _ h => h) (Or.inl ⟨by kernel_rfl, ?_⟩) ?_ ?_
    rotate_left
    · intro w'
      go_simp
      with_reducible rfl
    rotate_left
    · simp only [Act.put, List.setIfInBounds_toArray, List.set_cons_zero, List.set_cons_succ, i64_w, i32_w]
      rfl
    refine pure_ (i := 22) (N := some 43) (v := ?_) (a' := ?_) #[true, true, true, true, true, true, true, true, true, true, true, true, true, true, true, true, true, true, true, true, true, true, true, false, false, false, false, false, false, false, false, false, false, false, false, false, false, false, false, false, false, false, false, false, false, false, false, false, false, false, false, false, false, false, false, false, false, false] rfl rfl (any_of HT_.out (by kernel_rfl)) (fun _ _ _ h => h) (Or.inl ⟨by kernel_rfl, ?_⟩) ?_ ?_
    rotate_left
    · intro w'
      go_simp
      with_reducible rfl
    rotate_left
    · simp only [Act.put, List.setIfInBounds_toArray, List.set_cons_zero, List.set_cons_succ, i64_w, i32_w]
      rfl
    refine pure_ (i := 23) (N := some 44) (v := (.pointer (some ⟨w.heap.size, 2, none⟩))) (a' := ?_) #[true, true, true, true, true, true, true, true, true, true, true, true, true, true, true, true, true, true, true, true, true, true, true, true, false, false, false, false, false, false, false, false, false, false, false, false, false, false, false, false, false, false, false, false, false, false, false, false, false, false, false, false, false, false, false, false, false, false] rfl rfl (any_of HT_.out (by kernel_rfl)) (fun _ _ _ h => h) (Or.inl ⟨by kernel_rfl, fun w' => by kernel_rfl⟩) ?_ ?_
    rotate_left
    · simp only [Act.put, List.setIfInBounds_toArray, List.set_cons_zero, List.set_cons_succ, i64_w, i32_w]
      rfl
    refine take_ (i := 24) (N := some 45) (v := ?_) (a' := ?_) #[true, true, true, true, true, true, true, true, true, true, true, true, true, true, true, true, true, true, true, true, true, true, true, true, true, false, false, false, false, false, false, false, false, false, false, false, false, false, false, false, false, false, false, false, false, false, false, false, false, false, false, false, false, false, false, false, false, false] rfl rfl (take_ofW HT_.out HW_.out (by kernel_rfl)) (fun _ _ _ h => h) (Or.inl ⟨by kernel_rfl, ?_⟩) hHeld ?_ ?_
    rotate_left
    · rintro w' ⟨s0_, s1_, s2_⟩
      go_simp
      with_reducible rfl
    rotate_left
    · simp only [Act.put, List.setIfInBounds_toArray, List.set_cons_zero, List.set_cons_succ, i64_w, i32_w]
      rfl
    refine pure_ (i := 25) (N := some 46) (v := ?_) (a' := ?_) #[true, true, true, true, true, true, true, true, true, true, true, true, true, true, true, true, true, true, true, true, true, true, true, true, true, true, false, false, false, false, false, false, false, false, false, false, false, false, false, false, false, false, false, false, false, false, false, false, false, false, false, false, false, false, false, false, false, false] rfl rfl (any_of HT_.out (by kernel_rfl)) (fun _ _ _ h => h) (Or.inl ⟨by kernel_rfl, ?_⟩) ?_ ?_
    rotate_left
    · intro w'
      go_simp
      with_reducible rfl
    rotate_left
    · simp only [Act.put, List.setIfInBounds_toArray, List.set_cons_zero, List.set_cons_succ, i64_w, i32_w]
      rfl
    refine pure_ (i := 26) (N := some 47) (v := ?_) (a' := ?_) #[true, true, true, true, true, true, true, true, true, true, true, true, true, true, true, true, true, true, true, true, true, true, true, true, true, true, true, false, false, false, false, false, false, false, false, false, false, false, false, false, false, false, false, false, false, false, false, false, false, false, false, false, false, false, false, false, false, false] rfl rfl (any_of HT_.out (by kernel_rfl)) (fun _ _ _ h => h) (Or.inl ⟨by kernel_rfl, ?_⟩) ?_ ?_
    rotate_left
    · intro w'
      go_simp
      with_reducible rfl
    rotate_left
    · simp only [Act.put, List.setIfInBounds_toArray, List.set_cons_zero, List.set_cons_succ, i64_w, i32_w]
      rfl
    refine pure_ (i := 27) (N := some 48) (v := (.bool true)) (a' := ?_) #[true, true, true, true, true, true, true, true, true, true, true, true, true, true, true, true, true, true, true, true, true, true, true, true, true, true, true, true, false, false, false, false, false, false, false, false, false, false, false, false, false, false, false, false, false, false, false, false, false, false, false, false, false, false, false, false, false, false] rfl rfl (any_of HT_.out (by kernel_rfl)) (fun _ _ _ h => h) (Or.inl ⟨by kernel_rfl, fun w' => by kernel_rfl⟩) ?_ ?_
    rotate_left
    · simp only [Act.put, List.setIfInBounds_toArray, List.set_cons_zero, List.set_cons_succ, i64_w, i32_w]
      rfl
    refine pure_ (i := 28) (N := some 49) (v := (.bool true)) (a' := ?_) #[true, true, true, true, true, true, true, true, true, true, true, true, true, true, true, true, true, true, true, true, true, true, true, true, true, true, true, true, true, false, false, false, false, false, false, false, false, false, false, false, false, false, false, false, false, false, false, false, false, false, false, false, false, false, false, false, false, false] rfl rfl (any_of HT_.out (by kernel_rfl)) (fun _ _ _ h => h) (Or.inl ⟨by kernel_rfl, fun w' => by kernel_rfl⟩) ?_ ?_
    rotate_left
    · simp only [Act.put, List.setIfInBounds_toArray, List.set_cons_zero, List.set_cons_succ, i64_w, i32_w]
      rfl
    refine pure_ (i := 29) (N := some 50) (v := (.string s)) (a' := ?_) #[true, true, true, true, true, true, true, true, true, true, true, true, true, true, true, true, true, true, true, true, true, true, true, true, true, true, true, true, true, true, false, false, false, false, false, false, false, false, false, false, false, false, false, false, false, false, false, false, false, false, false, false, false, false, false, false, false, false] rfl rfl (any_of HT_.out (by kernel_rfl)) (fun _ _ _ h => h) (Or.inl ⟨by kernel_rfl, fun w' => by kernel_rfl⟩) ?_ ?_
    rotate_left
    · simp only [Act.put, List.setIfInBounds_toArray, List.set_cons_zero, List.set_cons_succ, i64_w, i32_w]
      rfl
    refine pure_ (i := 30) (N := some 51) (v := (.pointer (some ⟨w.heap.size, 2, none⟩))) (a' := ?_) #[true, true, true, true, true, true, true, true, true, true, true, true, true, true, true, true, true, true, true, true, true, true, true, true, true, true, true, true, true, true, true, false, false, false, false, false, false, false, false, false, false, false, false, false, false, false, false, false, false, false, false, false, false, false, false, false, false, false] rfl rfl (any_of HT_.out (by kernel_rfl)) (fun _ _ _ h => h) (Or.inl ⟨by kernel_rfl, fun w' => by kernel_rfl⟩) ?_ ?_
    rotate_left
    · simp only [Act.put, List.setIfInBounds_toArray, List.set_cons_zero, List.set_cons_succ, i64_w, i32_w]
      rfl
    refine pure_ (i := 35) (N := some 56) (v := (.pointer (some ⟨w.heap.size, 2, none⟩))) (a' := ?_) #[true, true, true, true, true, true, true, true, true, true, true, true, true, true, true, true, true, true, true, true, true, true, true, true, true, true, true, true, true, true, true, false, false, false, false, true, false, false, false, false, false, false, false, false, false, false, false, false, false, false, false, false, false, false, false, false, false, false] rfl rfl (any_of HT_.out (by kernel_rfl)) (fun _ _ _ h => h) (Or.inl ⟨by kernel_rfl, fun w' => by kernel_rfl⟩) ?_ ?_
    rotate_left
    · simp only [Act.put, List.setIfInBounds_toArray, List.set_cons_zero, List.set_cons_succ, i64_w, i32_w]
      rfl
    refine take_ (i := 31) (N := some 52) (v := ?_) (a' := ?_) #[true, true, true, true, true, true, true, true, true, true, true, true, true, true, true, true, true, true, true, true, true, true, true, true, true, true, true, true, true, true, true, true, false, false, false, true, false, false, false, false, false, false, false, false, false, false, false, false, false, false, false, false, false, false, false, false, false, false] rfl rfl (take_ofW HT_.out HW_.out (by kernel_rfl)) (fun _ _ _ h => h) (Or.inl ⟨by kernel_rfl, ?_⟩) hHeld ?_ ?_
    rotate_left
    · rintro w' ⟨s0_, s1_, s2_⟩
      go_simp
      with_reducible rfl
    rotate_left
    · simp only [Act.put, List.setIfInBounds_toArray, List.set_cons_zero, List.set_cons_succ, i64_w, i32_w]
      rfl
    refine pure_ (i := 32) (N := some 53) (v := ?_) (a' := ?_) #[true, true, true, true, true, true, true, true, true, true, true, true, true, true, true, true, true, true, true, true, true, true, true, true, true, true, true, true, true, true, true, true, true, false, false, true, false, false, false, false, false, false, false, false, false, false, false, false, false, false, false, false, false, false, false, false, false, false] rfl rfl (any_of HT_.out (by kernel_rfl)) (fun _ _ _ h => h) (Or.inl ⟨by kernel_rfl, ?_⟩) ?_ ?_
    rotate_left
    · intro w'
      go_simp
      with_reducible rfl
    rotate_left
    · simp only [Act.put, List.setIfInBounds_toArray, List.set_cons_zero, List.set_cons_succ, i64_w, i32_w]
      rfl
    refine pure_ (i := 33) (N := some 54) (v := ?_) (a' := ?_) #[true, true, true, true, true, true, true, true, true, true, true, true, true, true, true, true, true, true, true, true, true, true, true, true, true, true, true, true, true, true, true, true, true, true, false, true, false, false, false, false, false, false, false, false, false, false, false, false, false, false, false, false, false, false, false, false, false, false] rfl rfl (any_of HT_.out (by kernel_rfl)) (fun _ _ _ h => h) (Or.inl ⟨by kernel_rfl, ?_⟩) ?_ ?_
    rotate_left
    · intro w'
      go_simp
      with_reducible rfl
    rotate_left
    · simp only [Act.put, List.setIfInBounds_toArray, List.set_cons_zero, List.set_cons_succ, i64_w, i32_w]
      rfl
    refine pure_ (i := 34) (N := some 55) (v := ?_) (a' := ?_) #[true, true, true, true, true, true, true, true, true, true, true, true, true, true, true, true, true, true, true, true, true, true, true, true, true, true, true, true, true, true, true, true, true, true, true, true, false, false, false, false, false, false, false, false, false, false, false, false, false, false, false, false, false, false, false, false, false, false] rfl rfl (any_of HT_.out (by kernel_rfl)) (fun _ _ _ h => h) (Or.inl ⟨by kernel_rfl, ?_⟩) ?_ ?_
    rotate_left
    · intro w'
      go_simp
      with_reducible rfl
    rotate_left
    · simp only [Act.put, List.setIfInBounds_toArray, List.set_cons_zero, List.set_cons_succ, i64_w, i32_w]
      rfl
    refine take_ (i := 36) (N := some 57) (v := ?_) (a' := ?_) #[true, true, true, true, true, true, true, true, true, true, true, true, true, true, true, true, true, true, true, true, true, true, true, true, true, true, true, true, true, true, true, true, true, true, true, true, true, false, false, false, false, false, false, false, false, false, false, false, false, false, false, false, false, false, false, false, false, false] rfl rfl (take_ofW HT_.out HW_.out (by kernel_rfl)) (fun _ _ _ h => h) (Or.inl ⟨by kernel_rfl, ?_⟩) hHeld ?_ ?_
    rotate_left
    · rintro w' ⟨s0_, s1_, s2_⟩
      go_simp
      with_reducible rfl
    rotate_left
    · simp only [Act.put, List.setIfInBounds_toArray, List.set_cons_zero, List.set_cons_succ, i64_w, i32_w]
      rfl
    refine pure_ (i := 37) (N := some 58) (v := ?_) (a' := ?_) #[true, true, true, true, true, true, true, true, true, true, true, true, true, true, true, true, true, true, true, true, true, true, true, true, true, true, true, true, true, true, true, true, true, true, true, true, true, true, false, false, false, false, false, false, false, false, false, false, false, false, false, false, false, false, false, false, false, false] rfl rfl (any_of HT_.out (by kernel_rfl)) (fun _ _ _ h => h) (Or.inl ⟨by kernel_rfl, ?_⟩) ?_ ?_
    rotate_left
    · intro w'
      go_simp
      with_reducible rfl
    rotate_left
    · simp only [Act.put, List.setIfInBounds_toArray, List.set_cons_zero, List.set_cons_succ, i64_w, i32_w]
      rfl
    refine pure_ (i := 38) (N := some 59) (v := (.bool true)) (a' := ?_) #[true, true, true, true, true, true, true, true, true, true, true, true, true, true, true, true, true, true, true, true, true, true, true, true, true, true, true, true, true, true, true, true, true, true, true, true, true, true, true, false, false, false, false, false, false, false, false, false, false, false, false, false, false, false, false, false, false, false] rfl rfl (any_of HT_.out (by kernel_rfl)) (fun _ _ _ h => h) (Or.inl ⟨by kernel_rfl, fun w' => by kernel_rfl⟩) ?_ ?_
    rotate_left
    · simp only [Act.put, List.setIfInBounds_toArray, List.set_cons_zero, List.set_cons_succ, i64_w, i32_w]
      rfl
    refine pure_ (i := 39) (N := some 60) (v := (.bool true)) (a' := ?_) #[true, true, true, true, true, true, true, true, true, true, true, true, true, true, true, true, true, true, true, true, true, true, true, true, true, true, true, true, true, true, true, true, true, true, true, true, true, true, true, true, false, false, false, false, false, false, false, false, false, false, false, false, false, false, false, false, false, false] rfl rfl (any_of HT_.out (by kernel_rfl)) (fun _ _ _ h => h) (Or.inl ⟨by kernel_rfl, fun w' => by kernel_rfl⟩) ?_ ?_
    rotate_left
    · simp only [Act.put, List.setIfInBounds_toArray, List.set_cons_zero, List.set_cons_succ, i64_w, i32_w]
      rfl
    refine pure_ (i := 40) (N := some 61) (v := (.string s)) (a' := ?_) #[true, true, true, true, true, true, true, true, true, true, true, true, true, true, true, true, true, true, true, true, true, true, true, true, true, true, true, true, true, true, true, true, true, true, true, true, true, true, true, true, true, false, false, false, false, false, false, false, false, false, false, false, false, false, false, false, false, false] rfl rfl (any_of HT_.out (by kernel_rfl)) (fun _ _ _ h => h) (Or.inl ⟨by kernel_rfl, fun w' => by kernel_rfl⟩) ?_ ?_
    rotate_left
    · simp only [Act.put, List.setIfInBounds_toArray, List.set_cons_zero, List.set_cons_succ, i64_w, i32_w]
      rfl
    refine pure_ (i := 41) (N := some 62) (v := ?_) (a' := ?_) #[true, true, true, true, true, true, true, true, true, true, true, true, true, true, true, true, true, true, true, true, true, true, true, true, true, true, true, true, true, true, true, true, true, true, true, true, true, true, true, true, true, true, false, false, false, false, false, false, false, false, false, false, false, false, false, false, false, false] rfl rfl (any_of HT_.out (by kernel_rfl)) (fun _ _ _ h => h) (Or.inl ⟨by kernel_rfl, ?_⟩) ?_ ?_
    rotate_left
    · intro w'
      go_simp
      with_reducible rfl
    rotate_left
    · simp only [Act.put, List.setIfInBounds_toArray, List.set_cons_zero, List.set_cons_succ, i64_w, i32_w]
      rfl
    refine pure_ (i := 42) (N := some 63) (v := (.int .u32 c)) (a' := ?_) #[true, true, true, true, true, true, true, true, true, true, true, true, true, true, true, true, true, true, true, true, true, true, true, true, true, true, true, true, true, true, true, true, true, true, true, true, true, true, true, true, true, true, true, false, false, false, false, false, false, false, false, false, false, false, false, false, false, false] rfl rfl (any_of HT_.out (by kernel_rfl)) (fun _ _ _ h => h) (Or.inl ⟨by kernel_rfl, fun w' => by kernel_rfl⟩) ?_ ?_
    rotate_left
    · simp only [Act.put, List.setIfInBounds_toArray, List.set_cons_zero, List.set_cons_succ, i64_w, i32_w]
      rfl
    refine pure_ (i := 43) (N := some 64) (v := ?_) (a' := ?_) #[true, true, true, true, true, true, true, true, true, true, true, true, true, true, true, true, true, true, true, true, true, true, true, true, true, true, true, true, true, true, true, true, true, true, true, true, true, true, true, true, true, true, true, true, false, false, false, false, false, false, false, false, false, false, false, false, false, false] rfl rfl (any_of HT_.out (by kernel_rfl)) (fun _ _ _ h => h) (Or.inl ⟨by kernel_rfl, ?_⟩) ?_ ?_
    rotate_left
    · intro w'
      go_simp
      with_reducible rfl
    rotate_left
    · simp only [Act.put, List.setIfInBounds_toArray, List.set_cons_zero, List.set_cons_succ, i64_w, i32_w]
      rfl
    refine pure_ (i := 44) (N := some 65) (v := (.int .u32 c)) (a' := ?_) #[true, true, true, true, true, true, true, true, true, true, true, true, true, true, true, true, true, true, true, true, true, true, true, true, true, true, true, true, true, true, true, true, true, true, true, true, true, true, true, true, true, true, true, true, true, false, false, false, false, false, false, false, false, false, false, false, false, false] rfl rfl (any_of HT_.out (by kernel_rfl)) (fun _ _ _ h => h) (Or.inl ⟨by kernel_rfl, fun w' => by kernel_rfl⟩) ?_ ?_
    rotate_left
    · simp only [Act.put, List.setIfInBounds_toArray, List.set_cons_zero, List.set_cons_succ, i64_w, i32_w]
      rfl
    refine pure_ (i := 45) (N := some 66) (v := ?_) (a' := ?_) #[true, true, true, true, true, true, true, true, true, true, true, true, true, true, true, true, true, true, true, true, true, true, true, true, true, true, true, true, true, true, true, true, true, true, true, true, true, true, true, true, true, true, true, true, true, true, false, false, false, false, false, false, false, false, false, false, false, false] rfl rfl (any_of HT_.out (by kernel_rfl)) (fun _ _ _ h => h) (Or.inl ⟨by kernel_rfl, ?_⟩) ?_ ?_
    rotate_left
    · intro w'
      go_simp
      with_reducible rfl
    rotate_left
    · simp only [Act.put, List.setIfInBounds_toArray, List.set_cons_zero, List.set_cons_succ, i64_w, i32_w]
      rfl
    refine pure_ (i := 46) (N := some 67) (v := ?_) (a' := ?_) #[true, true, true, true, true, true, true, true, true, true, true, true, true, true, true, true, true, true, true, true, true, true, true, true, true, true, true, true, true, true, true, true, true, true, true, true, true, true, true, true, true, true, true, true, true, true, true, false, false, false, false, false, false, false, false, false, false, false] rfl rfl (any_of HT_.out (by kernel_rfl)) (fun _ _ _ h => h) (Or.inl ⟨by kernel_rfl, ?_⟩) ?_ ?_
    rotate_left
    · intro w'
      go_simp
      with_reducible rfl
    rotate_left
    · simp only [Act.put, List.setIfInBounds_toArray, List.set_cons_zero, List.set_cons_succ, i64_w, i32_w]
      rfl
    refine pure_ (i := 47) (N := some 68) (v := (.int .u32 c)) (a' := ?_) #[true, true, true, true, true, true, true, true, true, true, true, true, true, true, true, true, true, true, true, true, true, true, true, true, true, true, true, true, true, true, true, true, true, true, true, true, true, true, true, true, true, true, true, true, true, true, true, true, false, false, false, false, false, false, false, false, false, false] rfl rfl (any_of HT_.out (by kernel_rfl)) (fun _ _ _ h => h) (Or.inl ⟨by kernel_rfl, fun w' => by kernel_rfl⟩) ?_ ?_
    rotate_left
    · simp only [Act.put, List.setIfInBounds_toArray, List.set_cons_zero, List.set_cons_succ, i64_w, i32_w]
      rfl
    refine pure_ (i := 48) (N := some 69) (v := ?_) (a' := ?_) #[true, true, true, true, true, true, true, true, true, true, true, true, true, true, true, true, true, true, true, true, true, true, true, true, true, true, true, true, true, true, true, true, true, true, true, true, true, true, true, true, true, true, true, true, true, true, true, true, true, false, false, false, false, false, false, false, false, false] rfl rfl (any_of HT_.out (by kernel_rfl)) (fun _ _ _ h => h) (Or.inl ⟨by kernel_rfl, ?_⟩) ?_ ?_
    rotate_left
    · intro w'
      go_simp
      with_reducible rfl
    rotate_left
    · simp only [Act.put, List.setIfInBounds_toArray, List.set_cons_zero, List.set_cons_succ, i64_w, i32_w]
      rfl
    refine pure_ (i := 49) (N := some 70) (v := ?_) (a' := ?_) #[true, true, true, true, true, true, true, true, true, true, true, true, true, true, true, true, true, true, true, true, true, true, true, true, true, true, true, true, true, true, true, true, true, true, true, true, true, true, true, true, true, true, true, true, true, true, true, true, true, true, false, false, false, false, false, false, false, false] rfl rfl (any_of HT_.out (by kernel_rfl)) (fun _ _ _ h => h) (Or.inl ⟨by kernel_rfl, ?_⟩) ?_ ?_
    rotate_left
    · intro w'
      go_simp
      with_reducible rfl
    rotate_left
    · simp only [Act.put, List.setIfInBounds_toArray, List.set_cons_zero, List.set_cons_succ, i64_w, i32_w]
      rfl
    refine pure_ (i := 50) (N := some 71) (v := (.int .u32 c)) (a' := ?_) #[true, true, true, true, true, true, true, true, true, true, true, true, true, true, true, true, true, true, true, true, true, true, true, true, true, true, true, true, true, true, true, true, true, true, true, true, true, true, true, true, true, true, true, true, true, true, true, true, true, true, true, false, false, false, false, false, false, false] rfl rfl (any_of HT_.out (by kernel_rfl)) (fun _ _ _ h => h) (Or.inl ⟨by kernel_rfl, fun w' => by kernel_rfl⟩) ?_ ?_
    rotate_left
    · simp only [Act.put, List.setIfInBounds_toArray, List.set_cons_zero, List.set_cons_succ, i64_w, i32_w]
      rfl
    refine pure_ (i := 51) (N := some 72) (v := ?_) (a' := ?_) #[true, true, true, true, true, true, true, true, true, true, true, true, true, true, true, true, true, true, true, true, true, true, true, true, true, true, true, true, true, true, true, true, true, true, true, true, true, true, true, true, true, true, true, true, true, true, true, true, true, true, true, true, false, false, false, false, false, false] rfl rfl (any_of HT_.out (by kernel_rfl)) (fun _ _ _ h => h) (Or.inl ⟨by kernel_rfl, ?_⟩) ?_ ?_
    rotate_left
    · intro w'
      go_simp
      with_reducible rfl
    rotate_left
    · simp only [Act.put, List.setIfInBounds_toArray, List.set_cons_zero, List.set_cons_succ, i64_w, i32_w]
      rfl
    refine pure_ (i := 52) (N := some 73) (v := ?_) (a' := ?_) #[true, true, true, true, true, true, true, true, true, true, true, true, true, true, true, true, true, true, true, true, true, true, true, true, true, true, true, true, true, true, true, true, true, true, true, true, true, true, true, true, true, true, true, true, true, true, true, true, true, true, true, true, true, false, false, false, false, false] rfl rfl (any_of HT_.out (by kernel_rfl)) (fun _ _ _ h => h) (Or.inl ⟨by kernel_rfl, ?_⟩) ?_ ?_
    rotate_left
    · intro w'
      go_simp
      with_reducible rfl
    rotate_left
    · simp only [Act.put, List.setIfInBounds_toArray, List.set_cons_zero, List.set_cons_succ, i64_w, i32_w]
      rfl
    refine last_ (i := 53) (N := some 74) #[true, true, true, true, true, true, true, true, true, true, true, true, true, true, true, true, true, true, true, true, true, true, true, true, true, true, true, true, true, true, true, true, true, true, true, true, true, true, true, true, true, true, true, true, true, true, true, true, true, true, true, true, true, true, false, false, false, false] rfl rfl (one_of HT_.out (by kernel_rfl)) (by decide) (fun K hK => ?_)
    have hcv := four_conv w3 c hS2
    generalize hu : mk (leL c) = u at *
    refine value_ (w1 := ?_) (v := ?_) (by kernel_rfl) rfl ?_ ?_
    rotate_left 2
    · go_simp
      constructor
      · rfl
      · rfl
    refine hK _ _ ?_
    clear hK K
    refine norm_ (a' := ?_) ?_ ?_
    rotate_left
    · show Act.put _ (some 74) _ = _
      simp only [Act.put, List.setIfInBounds_toArray, List.set_cons_zero, List.set_cons_succ, i64_w, i32_w]
      rfl
    refine last_ (i := 54) (N := some 75) #[true, true, true, true, true, true, true, true, true, true, true, true, true, true, true, true, true, true, true, true, true, true, true, true, true, true, true, true, true, true, true, true, true, true, true, true, true, true, true, true, true, true, true, true, true, true, true, true, true, true, true, true, true, true, true, false, false, false] rfl rfl (one_of HT_.out (by kernel_rfl)) (by decide) (fun K hK => ?_)
    refine value_ (w1 := ?_) (v := ?_) (by kernel_rfl) rfl ?_ ?_
    rotate_left 2
    · go_simp
      constructor
      · rfl
      · rfl
    refine hK _ _ ?_
    clear hK K
    refine norm_ (a' := ?_) ?_ ?_
    rotate_left
    · show Act.put _ (some 75) _ = _
      simp only [Act.put, List.setIfInBounds_toArray, List.set_cons_zero, List.set_cons_succ, i64_w, i32_w]
      rfl
    refine pure_ (i := 55) (N := some 76) (v := ?_) (a' := ?_) #[true, true, true, true, true, true, true, true, true, true, true, true, true, true, true, true, true, true, true, true, true, true, true, true, true, true, true, true, true, true, true, true, true, true, true, true, true, true, true, true, true, true, true, true, true, true, true, true, true, true, true, true, true, true, true, true, false, false] rfl rfl (any_of HT_.out (by kernel_rfl)) (fun _ _ _ h => h) (Or.inl ⟨by kernel_rfl, ?_⟩) ?_ ?_
    rotate_left
    · intro w'
      go_simp
      with_reducible rfl
    rotate_left
    · simp only [Act.put, List.setIfInBounds_toArray, List.set_cons_zero, List.set_cons_succ, i64_w, i32_w]
      rfl
    refine pure_ (i := 56) (N := some 77) (v := ?_) (a' := ?_) #[true, true, true, true, true, true, true, true, true, true, true, true, true, true, true, true, true, true, true, true, true, true, true, true, true, true, true, true, true, true, true, true, true, true, true, true, true, true, true, true, true, true, true, true, true, true, true, true, true, true, true, true, true, true, true, true, true, false] rfl rfl (any_of HT_.out (by kernel_rfl)) (fun _ _ _ h => h) (Or.inl ⟨by kernel_rfl, ?_⟩) ?_ ?_
    rotate_left
    · intro w'
      go_simp
      with_reducible rfl
    rotate_left
    · simp only [Act.put, List.setIfInBounds_toArray, List.set_cons_zero, List.set_cons_succ, i64_w, i32_w]
      rfl
    refine pure_ (i := 57) (N := some 2) (v := ?_) (a' := ?_) #[true, true, true, true, true, true, true, true, true, true, true, true, true, true, true, true, true, true, true, true, true, true, true, true, true, true, true, true, true, true, true, true, true, true, true, true, true, true, true, true, true, true, true, true, true, true, true, true, true, true, true, true, true, true, true, true, true, true] rfl rfl (any_of HT_.out (by kernel_rfl)) (fun _ _ _ h => h) (Or.inl ⟨by kernel_rfl, ?_⟩) ?_ ?_
    rotate_left
    · intro w'
      go_simp
      with_reducible rfl
    rotate_left
    · simp only [Act.put, List.setIfInBounds_toArray, List.set_cons_zero, List.set_cons_succ, i64_w, i32_w]
      rfl
    refine done_ (done_of HT_.out (by kernel_rfl)) ?_
    have HB4 := Aside0.mk (HB.out.trans (HX3.out.mono (Nat.le_of_lt hlt)))
    have HB5 := Aside0.mk (HB4.out.alloc HB4.out.size (Obj.cells #[.int .u8 (IntKind.u8.wrap c), .int .u8 (IntKind.u8.wrap (c / 256)), .int .u8 (IntKind.u8.wrap (c / 65536)), .int .u8 (IntKind.u8.wrap (c / 16777216))] 5))
    clear hHeld hc0 hc1 hc2 HT_ HW_
    go_wp2
    have hfin : ((s.extract 124 128).toList == u.toList) = true := by rw [P124.out, beq_iff_eq]
    go_ret
    exact ⟨congrArg (fun x => Ending.returned (.bool x)) hfin, HB5.out⟩
  · have h2 := packI_no e i b hb
    rw [h2] at hp
    have HP := Aside0.mk hp; clear hp h2 hb
    go_enter Try.func7, Try.ntmps7
    go_upto_region 1 with (fail)
    have b0 := heap_alloc_new w (Obj.cells #[.int .u32 e, .int .u32 i, .string b] 24)
    have n_ := Aside0.mk (HB.out.alloc HB.out.size (Obj.cells #[.int .u32 e, .int .u32 i, .string b] 24))
    clear HB; have HB := n_; clear n_
    generalize w.alloc (Obj.cells #[.int .u32 e, .int .u32 i, .string b] 24) = w0 at *
    have c0 := blk_cell b0 0; have c1 := blk_cell b0 1; have c2 := blk_cell b0 2
    clear b0
    go_wp2_with (first | (go_at_call 10; refine (slab_Pack.calls e i b ⟨#[]⟩ 1 _ HP.out).mono ?_; rintro x w1 ⟨rfl, hb1⟩; have n_ := Aside0.mk (Arr.below_trans HB.out hb1); clear HB; have HB := n_; clear n_ hb1) | (go_at_call 9; refine (careenlaw01_awake.go _).mono ?_; rintro x w1 ⟨rfl, hb1⟩; have n_ := Aside0.mk (Arr.below_trans HB.out hb1); clear HB; have HB := n_; clear n_ hb1))
    go_ret
    exact ⟨rfl, HB.out⟩
noncomputable def careenlaw01_SlabParts.f (a0_0 a0_1 : Int) (a0_2 : ByteArray) : Option Bool := if (0 ≤ a0_0 ∧ a0_0 < 4294967296) ∧ (0 ≤ a0_1 ∧ a0_1 < 4294967296) then some true else none
theorem careenlaw01_SlabParts.calls (a0_0 a0_1 : Int) (a0_2 : ByteArray) (r : Bool) (w : World) (h : careenlaw01_SlabParts.f a0_0 a0_1 a0_2 = some r) :
    Calls Try.prog 7 #[.agg #[.int .u32 a0_0, .int .u32 a0_1, .string a0_2]] w fun e w' => e = .returned (.bool r) ∧ Below w.heap.size w w' := by
  unfold careenlaw01_SlabParts.f at h
  by_cases hf : (0 ≤ a0_0 ∧ a0_0 < 4294967296) ∧ (0 ≤ a0_1 ∧ a0_1 < 4294967296)
  · rw [if_pos hf] at h
    obtain rfl := Option.some.inj h
    exact parts_walk a0_0 a0_1 a0_2 hf.1 hf.2 w
  · rw [if_neg hf] at h
    cases h
end Go.Proofs.Ytigfeafenjfdlaa.X1
