import Derived.Test.YtigfeafenjfdlaaX1x90
/-! Layer 1: the walk of SlabTurns. -/
namespace Go.Proofs.Ytigfeafenjfdlaa.X1
open Go Go.RowKit Go.Proofs.YtigfeafenjfdlaaW.PrintWords Go.Proofs.YtigfeafenjfdlaaW.PrintLast Go.Proofs.YtigfeafenjfdlaaW.PrintMore Go.Proofs.Ytigfeafenjfdlaa.Slab
set_option linter.unusedVariables false
set_option linter.unusedSimpArgs false
/-- A sector's last four bytes are the sum of the others. -/
def okL (L : List UInt8) : Prop := L.length = 128 ∧ L.drop 124 = leL (n32 (crcL (L.take 124)))
theorem sec_ok (e i : Int) (b : List UInt8) (hb : b.length ≤ 112) : okL (secL e i b) := by
  refine ⟨secL_len e i b hb, ?_⟩
  have h := bareL_len e i b hb
  unfold secL
  generalize bareL e i b = x at *
  rw [List.drop_append_of_le_length (by omega), List.take_append_of_le_length (by omega), List.drop_of_length_le (by omega), List.take_of_length_le (by omega)]
  rfl
theorem isSec_ok (s : ByteArray) (h : isSec s) : okL (bl s) := by
  obtain ⟨h1, h2, h3⟩ := h
  rw [← h3]
  have := cutB_size s h1 h2
  exact sec_ok _ _ _ (by rw [bl_len]; omega)
theorem le_inj (a b : Int) (i : Nat) (h : le a i = le b i) : a / 2 ^ (8 * i) % 256 = b / 2 ^ (8 * i) % 256 := by
  unfold le at h
  generalize a / 2 ^ (8 * i) = x at *
  generalize b / 2 ^ (8 * i) = y at *
  have h2 := congrArg UInt8.toNat h
  rw [UInt8.toNat_ofNat', UInt8.toNat_ofNat'] at h2
  omega
theorem leL_inj (a b : Int) (ha : 0 ≤ a ∧ a < 4294967296) (hb : 0 ≤ b ∧ b < 4294967296) (h : leL a = leL b) : a = b := by
  unfold leL at h
  simp only [List.cons.injEq, and_true] at h
  obtain ⟨h0, h1, h2, h3⟩ := h
  have g0 := le_inj _ _ _ h0; have g1 := le_inj _ _ _ h1; have g2 := le_inj _ _ _ h2; have g3 := le_inj _ _ _ h3
  simp only [show (2 : Int) ^ (8 * 0) = 1 from rfl, show (2 : Int) ^ (8 * 1) = 256 from rfl, show (2 : Int) ^ (8 * 2) = 65536 from rfl, show (2 : Int) ^ (8 * 3) = 16777216 from rfl] at g0 g1 g2 g3
  omega
theorem crc_set (l : List UInt8) (m : Nat) (h : m < l.length) (v : UInt8) (e : crcL l = crcL (l.set m v)) : v = l[m] := by
  unfold crcL at e
  have e2 := congrArg (fun x => ~~~ x) e
  simp only [BitVec.not_not] at e2
  rw [List.set_eq_take_append_cons_drop, if_pos h] at e2
  have e3 : l = l.take m ++ l[m] :: l.drop (m + 1) := by rw [← List.drop_eq_getElem_cons h, List.take_append_drop]
  exact (crc_one (l.take m) (l.drop (m + 1)) (l[m]) v 0xFFFFFFFF#32 (by rw [← e3]; exact e2)).symm
theorem turn_not (L : List UInt8) (m : Nat) (h : okL L) (hm : m < L.length) (v : UInt8) (hv : v ≠ L[m]) : ¬ okL (L.set m v) := by
  intro g
  obtain ⟨h1, h2⟩ := h
  obtain ⟨g1, g2⟩ := g
  by_cases c : m < 124
  · rw [List.drop_set_of_lt (by omega), List.take_set, h2] at g2
    have g3 := leL_inj _ _ (n32_lt _) (n32_lt _) g2
    have g4 : crcL (L.take 124) = crcL ((L.take 124).set m v) := by have := congrArg (BitVec.ofInt 32) g3; rwa [of32, of32] at this
    have g5 := crc_set (L.take 124) m (by rw [List.length_take]; omega) v g4
    rw [List.getElem_take] at g5
    exact hv g5
  · rw [List.drop_set, if_neg (by omega), List.take_set_of_le (by omega), ← h2] at g2
    have g6 : ((L.drop 124).set (m - 124) v)[m - 124]? = (L.drop 124)[m - 124]? := by rw [g2]
    rw [List.getElem?_set_self (by rw [List.length_drop]; omega), List.getElem?_drop, show 124 + (m - 124) = m by omega, List.getElem?_eq_getElem hm] at g6
    exact hv (Option.some.inj g6)
/-- A sector of which one byte is another one is none. -/
theorem turned (e i : Int) (b s : ByteArray) (hb : b.size ≤ 112) (h : bl s = secL e i (bl b)) (m : Nat) (hm : m < s.size) (v : UInt8) (hv : v ≠ s[m]) : unpackF (setB s m v) = (0, 0, ⟨#[]⟩, 8) := by
  unfold unpackF
  refine if_neg fun c => ?_
  have k := isSec_ok _ c
  rw [bl_setB] at k
  have hl : m < (bl s).length := by rw [bl_len]; exact hm
  have g : (bl s)[m] = s[m] := Array.getElem_toList ..
  refine turn_not (bl s) m ?_ hl v (fun q => hv (q.trans g)) k
  rw [h]
  exact sec_ok _ _ _ (by rw [bl_len]; exact hb)
theorem one_bit (a : UInt8) (r : Nat) (hr : r < 8) : a ^^^ (UInt8.ofNat (2 ^ r)) ≠ a := by
  refine xor_self_ne a _ ?_
  intro h
  have h2 := congrArg UInt8.toNat h
  rw [UInt8.toNat_ofNat'] at h2
  have : 2 ^ r < 256 := Nat.lt_of_lt_of_le (Nat.pow_lt_pow_right (by omega) hr) (by decide)
  rw [Nat.mod_eq_of_lt this] at h2
  have := Nat.two_pow_pos r
  simp at h2
theorem turns_walk (e i : Int) (b : ByteArray) (he : 0 ≤ e ∧ e < 4294967296) (hi : 0 ≤ i ∧ i < 4294967296) (bit : Int) (w : World) :
    Calls Try.prog 5 #[.agg #[.int .u32 e, .int .u32 i, .string b], .int .i64 bit] w fun x w' => x = .returned (.bool true) ∧ Below w.heap.size w w' := by
  have HB := Aside0.mk (Below.refl w.heap.size w)
  have hp := pack_eq e i b he hi
  by_cases hb : b.size ≤ 112
  · obtain ⟨h1, h2⟩ := packI_bl e i b he hi hb
    generalize packI e i b = p at *
    obtain ⟨s, q⟩ := p
    simp only at h1 h2
    subst h2
    have HP := Aside0.mk hp; have H1 := Aside0.mk h1
    have hs : s.size = 128 := by rw [← bl_len, h1, secL_len e i _ (by rw [bl_len]; exact hb)]
    have hsz : (s.size : Int) = 128 := by omega
    obtain ⟨m, hm, hml⟩ := umod bit 1024 (by omega) (by omega)
    clear hp h1
    have HHB := Aside0.mk hb; clear hb
    go_enter Try.func5, Try.ntmps5
    go_upto_region 1 with (fail)
    have b0 := heap_alloc_new w (Obj.cells #[.int .u32 e, .int .u32 i, .string b] 24)
    have n_ := Aside0.mk (HB.out.alloc HB.out.size (Obj.cells #[.int .u32 e, .int .u32 i, .string b] 24))
    clear HB; have HB := n_; clear n_
    generalize w.alloc (Obj.cells #[.int .u32 e, .int .u32 i, .string b] 24) = w0 at *
    have c0 := blk_cell b0 0; have c1 := blk_cell b0 1; have c2 := blk_cell b0 2
    clear b0
    go_upto_region 4 with (first | (go_at_call 10; refine (slab_Pack.calls e i b s 0 _ HP.out).mono ?_; rintro x w1 ⟨rfl, hb1⟩; have n_ := Aside0.mk (Arr.below_trans HB.out hb1); clear HB; have HB := n_; clear n_ hb1) | (go_at_call 9; refine (careenlaw01_awake.go _).mono ?_; rintro x w1 ⟨rfl, hb1⟩; have n_ := Aside0.mk (Arr.below_trans HB.out hb1); clear HB; have HB := n_; clear n_ hb1))
    obtain ⟨cc, w3, hrun, hcc, H, hb3⟩ := Bof.made (P := Try.prog) w1 9 37 5 s rfl rfl rfl
    have HH := Aside0.mk H
    have HB3 := Aside0.mk (HB.out.trans (hb3.mono HB.out.size))
    have hsz2 : w.heap.size ≤ w1.heap.size := HB.out.size
    clear H hb3 HB c0 c1 c2
    go_upto_region 5 with (fail)
    clear hrun
    generalize w1.heap.size = gb at *
    go_upto_region 6 with (fail)
    rw [hm]
    clear hm
    have hq : m / 8 < s.size := by omega
    have hr : m % 8 < 8 := by omega
    obtain ⟨q, hqe⟩ : ∃ q, q = m / 8 := ⟨_, rfl⟩
    obtain ⟨r, hre⟩ : ∃ r, r = m % 8 := ⟨_, rfl⟩
    have e1 : Int.tdiv (m : Int) 8 = (q : Int) := by rw [Int.tdiv_eq_ediv_of_nonneg (by omega)]; omega
    have e2 : Int.tmod (m : Int) 8 = (r : Int) := by rw [Int.tmod_eq_emod_of_nonneg (by omega)]; omega
    rw [← hqe] at hq; rw [← hre] at hr
    have c0 : w3.drew.cell? _ = _ := HH.out.cell q hq
    have f0 : w3.drew.frozen? _ = _ := HH.out.frozen q hq
    have i0 : (0 : Int) ≤ (q : Int) := by omega
    have i1 : (q : Int) < (s.size : Int) := by omega
    have i2 : (0 : Int) ≤ (r : Int) := by omega
    clear hqe hre
    go_region
    have e3 : (2 : Int) ^ r % 256 = ((UInt8.ofNat (2 ^ r)).toNat : Int) := by
      rw [UInt8.toNat_ofNat']
      simp
    rw [e3]
    have h4 := (HH.out.set q hq (s[q] ^^^ UInt8.ofNat (2 ^ r))).below (w1 := (w3.setCell ⟨gb, q, none⟩ (.int .u8 ((s[q] ^^^ UInt8.ofNat (2 ^ r)).toNat : Int))).drew) (Below.refl _ _).drew
    rw [← bits_xor8] at h4
    have hb4 := (HB3.out.setCell (p := ⟨gb, q, none⟩) hsz2 (.int .u8 (bits .xor .u8 (s[q].toNat : Int) ((UInt8.ofNat (2 ^ r)).toNat : Int)))).drew
    generalize (w3.setCell ⟨gb, q, none⟩ (.int .u8 (bits .xor .u8 (s[q].toNat : Int) ((UInt8.ofNat (2 ^ r)).toNat : Int)))).drew = w4 at *
    have htz : (setB s q (s[q] ^^^ UInt8.ofNat (2 ^ r))).size = 128 := by rw [setB_size]; exact hs
    have HU := Aside0.mk (show slab_Unpack.f 5 (setB s q (s[q] ^^^ UInt8.ofNat (2 ^ r))) = some (0, 0, ⟨#[]⟩, 8) by rw [unpack_eq 0, turned e i b s HHB.out H1.out q hq _ (one_bit _ r hr)])
    generalize setB s q (s[q] ^^^ UInt8.ofNat (2 ^ r)) = t at *
    have hcv := h4.conv (P := Try.prog) 37 5 9 cc rfl rfl rfl
    rw [htz] at hcv
    have HB4 := Aside0.mk hb4
    clear h4 hb4 c0 f0 HH HB3 e3 i0 i1 i2 e1 e2
    go_upto_region 8 with (go_at_call 13; refine (slab_Unpack.calls 5 t 0 0 ⟨#[]⟩ 8 _ HU.out).mono ?_; rintro x w5 ⟨rfl, hb5⟩; have n_ := Aside0.mk (Arr.below_trans HB4.out hb5); clear HB4; have HB4 := n_; clear n_ hb5)
    have HB5 := Aside0.mk (HB4.out.alloc HB4.out.size (Obj.cells #[.int .u32 0, .int .u32 0, .string ⟨#[]⟩] 24))
    clear HB4 hcv
    go_wp2
    go_ret
    exact ⟨rfl, HB5.out⟩
  · have h2 := packI_no e i b hb
    rw [h2] at hp
    have HP := Aside0.mk hp; clear hp h2 hb
    go_enter Try.func5, Try.ntmps5
    go_upto_region 1 with (fail)
    have b0 := heap_alloc_new w (Obj.cells #[.int .u32 e, .int .u32 i, .string b] 24)
    have n_ := Aside0.mk (HB.out.alloc HB.out.size (Obj.cells #[.int .u32 e, .int .u32 i, .string b] 24))
    clear HB; have HB := n_; clear n_
    generalize w.alloc (Obj.cells #[.int .u32 e, .int .u32 i, .string b] 24) = w0 at *
    have c0 := blk_cell b0 0; have c1 := blk_cell b0 1; have c2 := blk_cell b0 2
    clear b0
    go_wp2_with (first | (go_at_call 10; refine (slab_Pack.calls e i b ⟨#[]⟩ 1 _ HP.out).mono ?_; rintro x w1 ⟨rfl, hb1⟩; have n_ := Aside0.mk (Arr.below_trans HB.out hb1); clear HB; have HB := n_; clear n_ hb1) | (go_at_call 9; refine (careenlaw01_awake.go _).mono ?_; rintro x w1 ⟨rfl, hb1⟩; have n_ := Aside0.mk (Arr.below_trans HB.out hb1); clear HB; have HB := n_; clear n_ hb1))
    go_ret
    exact ⟨rfl, HB.out⟩
noncomputable def careenlaw01_SlabTurns.f (a0_0 a0_1 : Int) (a0_2 : ByteArray) (a1 : Int) : Option Bool := if (0 ≤ a0_0 ∧ a0_0 < 4294967296) ∧ (0 ≤ a0_1 ∧ a0_1 < 4294967296) then some true else none
theorem careenlaw01_SlabTurns.calls (a0_0 a0_1 : Int) (a0_2 : ByteArray) (a1 : Int) (r : Bool) (w : World) (h : careenlaw01_SlabTurns.f a0_0 a0_1 a0_2 a1 = some r) :
    Calls Try.prog 5 #[.agg #[.int .u32 a0_0, .int .u32 a0_1, .string a0_2], .int .i64 a1] w fun e w' => e = .returned (.bool r) ∧ Below w.heap.size w w' := by
  unfold careenlaw01_SlabTurns.f at h
  by_cases hf : (0 ≤ a0_0 ∧ a0_0 < 4294967296) ∧ (0 ≤ a0_1 ∧ a0_1 < 4294967296)
  · rw [if_pos hf] at h
    obtain rfl := Option.some.inj h
    exact turns_walk a0_0 a0_1 a0_2 hf.1 hf.2 a1 w
  · rw [if_neg hf] at h
    cases h
end Go.Proofs.Ytigfeafenjfdlaa.X1
