import Derived.Test.YtigfeafenjfdlaaX1x
import Derived.Test.YtigfeafenjfdlaaPure1b
import Derived.Test.YtigfeafenjfdlaaBof
/-! Layer 1: the walk of SlabSums. -/
namespace Go.Proofs.Ytigfeafenjfdlaa.X1
open Go Go.RowKit Go.Proofs.YtigfeafenjfdlaaW.PrintWords Go.Proofs.YtigfeafenjfdlaaW.PrintLast Go.Proofs.YtigfeafenjfdlaaW.PrintMore Go.Proofs.Ytigfeafenjfdlaa.Slab
set_option linter.unusedVariables false
set_option linter.unusedSimpArgs false
theorem of8 (a : UInt8) : BitVec.ofInt 8 (a.toNat : Int) = a.toBitVec := by
  apply BitVec.eq_of_toNat_eq
  rw [BitVec.toNat_ofInt]
  have := a.toNat_lt
  have e : a.toBitVec.toNat = a.toNat := rfl
  omega
theorem bits_xor8 (a c : UInt8) : bits .xor .u8 (a.toNat : Int) (c.toNat : Int) = ((a ^^^ c).toNat : Int) := by
  show IntKind.u8.wrap (((BitVec.ofInt 8 (a.toNat : Int)) ^^^ (BitVec.ofInt 8 (c.toNat : Int))).toNat : Int) = _
  rw [of8, of8]
  have := (a ^^^ c).toNat_lt
  have e : (a ^^^ c).toNat = (a.toBitVec ^^^ c.toBitVec).toNat := rfl
  rw [← e, IntKind.wrap_u8]
  omega
theorem bl_setB (s : ByteArray) (m : Nat) (v : UInt8) : bl (setB s m v) = (bl s).set m v := by
  unfold bl setB
  simp
theorem xor_self_ne (a c : UInt8) (hc : c ≠ 0) : a ^^^ c ≠ a := by
  intro h
  apply hc
  have h2 : a ^^^ (a ^^^ c) = a ^^^ a := by rw [h]
  rw [← UInt8.xor_assoc, UInt8.xor_self, UInt8.zero_xor] at h2
  exact h2
theorem sum_ne (s : ByteArray) (m : Nat) (h : m < s.size) (v : UInt8) (hv : v ≠ s[m]) : (n32 (crc s) != n32 (crc (setB s m v))) = true := by
  rw [bne_iff_ne]
  intro e
  have e1 : crc s = crc (setB s m v) := by have := congrArg (BitVec.ofInt 32) e; rwa [of32, of32] at this
  have hl : m < (bl s).length := by rw [bl_len]; exact h
  have g : (bl s)[m] = s[m] := Array.getElem_toList ..
  unfold crc at e1
  have e2 := congrArg (fun x => ~~~ x) e1
  simp only [BitVec.not_not] at e2
  change (bl s).foldl byteS _ = (bl (setB s m v)).foldl byteS _ at e2
  rw [bl_setB, List.set_eq_take_append_cons_drop, if_pos hl] at e2
  have e3 : bl s = (bl s).take m ++ (bl s)[m] :: (bl s).drop (m + 1) := by rw [← List.drop_eq_getElem_cons hl, List.take_append_drop]
  have e4 := crc_one ((bl s).take m) ((bl s).drop (m + 1)) ((bl s)[m]) v 0xFFFFFFFF#32 (by rw [← e3]; exact e2)
  exact hv (e4.symm.trans g)
/-- 'int(uint(x) % n)'. -/
theorem umod (x n : Int) (h0 : 0 < n) (h1 : n ≤ 9223372036854775807) : ∃ m : Nat, wrap64 (Int.tmod (IntKind.u64.wrap x) n) = (m : Int) ∧ (m : Int) < n := by
  have h : 0 ≤ IntKind.u64.wrap x ∧ IntKind.u64.wrap x < 18446744073709551616 := by rw [IntKind.wrap_u64]; omega
  have e : Int.tmod (IntKind.u64.wrap x) n = IntKind.u64.wrap x % n := Int.tmod_eq_emod_of_nonneg h.1
  have a := Int.emod_nonneg (IntKind.u64.wrap x) (show n ≠ 0 by omega)
  have b := Int.emod_lt_of_pos (IntKind.u64.wrap x) h0
  refine ⟨(IntKind.u64.wrap x % n).toNat, ?_, by omega⟩
  rw [e, w64 (by omega) (by omega)]; omega
theorem u64_in {x : Int} (h0 : 0 ≤ x) (h1 : x < 18446744073709551616) : IntKind.u64.wrap x = x := by rw [IntKind.wrap_u64]; omega
theorem sums_walk (s : ByteArray) (at_ : Int) (c : UInt8) (w : World) :
    Calls Try.prog 8 #[.string s, .int .i64 at_, .int .u8 (c.toNat : Int)] w fun e w' => e = .returned (.bool true) ∧ Below w.heap.size w w' := by
  have HB := Aside0.mk (Below.refl w.heap.size w)
  by_cases g : s.size = 0 ∨ s.size > 1000 ∨ c = 0
  · go_enter Try.func8, Try.ntmps8
    rcases g with g | g | g
    · have z0 : ((s.size : Int) == 0) = true := by simp [g]
      clear g
      go_wp2_with (go_at_call 9; refine (careenlaw01_awake.go _).mono ?_; rintro e w1 ⟨rfl, hb1⟩; have n_ := Aside0.mk (Arr.below_trans HB.out hb1); clear HB; have HB := n_; clear n_ hb1)
      go_ret
      exact ⟨rfl, HB.out⟩
    · have z0 : ((s.size : Int) == 0) = false := by simpa using (by omega : s.size ≠ 0)
      have z1 : (1000 : Int) < (s.size : Int) := by omega
      clear g
      go_wp2_with (go_at_call 9; refine (careenlaw01_awake.go _).mono ?_; rintro e w1 ⟨rfl, hb1⟩; have n_ := Aside0.mk (Arr.below_trans HB.out hb1); clear HB; have HB := n_; clear n_ hb1)
      go_ret
      exact ⟨rfl, HB.out⟩
    · have z2 : ((c.toNat : Int) == 0) = true := by subst g; rfl
      clear g
      go_wp2_with (go_at_call 9; refine (careenlaw01_awake.go _).mono ?_; rintro e w1 ⟨rfl, hb1⟩; have n_ := Aside0.mk (Arr.below_trans HB.out hb1); clear HB; have HB := n_; clear n_ hb1)
      all_goals (go_ret; exact ⟨rfl, HB.out⟩)
  · have g0 : ¬ s.size = 0 := fun h => g (Or.inl h)
    have g1 : s.size ≤ 1000 := Nat.le_of_not_lt fun h => g (Or.inr (Or.inl h))
    have g2 : c ≠ 0 := fun h => g (Or.inr (Or.inr h))
    have z0 : ((s.size : Int) == 0) = false := by simpa using g0
    have z1 : ¬ (1000 : Int) < (s.size : Int) := by omega
    have z2 : ((c.toNat : Int) == 0) = false := by
      simp only [beq_eq_false_iff_ne, ne_eq]
      intro h
      exact g2 (UInt8.toNat_inj.1 (by simpa using h))
    clear g
    obtain ⟨m, hm, hml⟩ := umod at_ (s.size : Int) (by omega) (by omega)
    have hu := u64_in (x := (s.size : Int)) (by omega) (by omega)
    have hu2 : ¬ ((s.size : Int) = 0) := g0 ∘ Int.ofNat.inj
    have hmn : m < s.size := by omega
    have hge : (0 : Int) ≤ (m : Int) := by omega
    have HN := Aside0.mk (sum_ne s m hmn (s[m] ^^^ c) (xor_self_ne s[m] c g2))
    have HM := Aside0.mk hm; have HU := Aside0.mk hu; have HG := Aside0.mk g1
    clear hm hu g1 g0
    have hsum : slab_Sum.f s = some (n32 (crc s)) := if_pos (by have := HG.out; omega)
    have HSM := Aside0.mk hsum; clear hsum
    go_enter Try.func8, Try.ntmps8
    go_upto_region 3 with (go_at_call 9; refine (careenlaw01_awake.go _).mono ?_; rintro e w1 ⟨rfl, hb1⟩; have n_ := Aside0.mk (Arr.below_trans HB.out hb1); clear HB; have HB := n_; clear n_ hb1)
    obtain ⟨cc, w3, hrun, hcc, H, hb3⟩ := Bof.made (P := Try.prog) w1 9 37 5 s rfl rfl rfl
    have HH := Aside0.mk H
    have HB3 := Aside0.mk (HB.out.trans (hb3.mono HB.out.size))
    have hsz : w.heap.size ≤ w1.heap.size := HB.out.size
    clear H hb3 HB z0 z1 z2
    go_upto_region 4 with (fail)
    clear hrun
    generalize w1.heap.size = gb at *
    have hu := HU.out
    have hm := HM.out
    have c0 := HH.out.cell m hmn
    have f0 := HH.out.frozen m hmn
    go_upto_region 5 with (fail)
    have h4 := HH.out.set m hmn (s[m] ^^^ c)
    rw [← bits_xor8] at h4
    have hb4 := HB3.out.setCell (p := ⟨gb, m, none⟩) hsz (.int .u8 (bits .xor .u8 (s[m].toNat : Int) (c.toNat : Int)))
    generalize w3.setCell ⟨gb, m, none⟩ (.int .u8 (bits .xor .u8 (s[m].toNat : Int) (c.toNat : Int))) = w4 at *
    have htz : (setB s m (s[m] ^^^ c)).size = s.size := setB_size ..
    have HT := Aside0.mk (show slab_Sum.f (setB s m (s[m] ^^^ c)) = some (n32 (crc (setB s m (s[m] ^^^ c)))) from if_pos (by have := HG.out; omega))
    generalize setB s m (s[m] ^^^ c) = t at *
    have H4 := Aside0.mk h4; have HB4 := Aside0.mk hb4
    clear h4 hb4 c0 f0 hm hu HH HB3 HM HU hml hu2
    have hcv : ∀ w' : World, Below w4.heap.size w4 w' → (convert 37 9 (.slice (some ⟨gb, 0, none⟩) s.size cc)).run Try.prog w' = .ok (.string t) w' := by
      intro w' hb
      rw [← htz]
      exact (H4.out.below hb).conv 37 5 9 cc rfl rfl rfl
    have HC := Aside0.mk hcv
    have hc0 := hcv w4.drew (Below.refl _ _).drew
    clear hcv
    refine start_ (n := 7) (S := fun w' => (convert 37 9 (.slice (some ⟨gb, 0, none⟩) s.size cc)).run Try.prog w' = .ok (.string t) w') (ds := []) #[false, false, false, false, false, false, false] (by kernel_rfl) rfl rfl hc0 (fun hHeld => ?_)
    refine pure_ (i := 0) (N := some 40) (v := ?_) (a' := ?_) #[true, false, false, false, false, false, false] rfl rfl (by kernel_rfl) (fun _ _ _ h => h) (Or.inl ⟨by rfl, ?_⟩) ?_ ?_
    rotate_left
    · intro w'
      go_simp
      with_reducible rfl
    rotate_left
    · simp only [Act.put, List.setIfInBounds_toArray, List.set_cons_zero, List.set_cons_succ, i64_w, i32_w]
      rfl
    refine pure_ (i := 2) (N := some 42) (v := ?_) (a' := ?_) #[true, false, true, false, false, false, false] rfl rfl (by kernel_rfl) (fun _ _ _ h => h) (Or.inl ⟨by rfl, ?_⟩) ?_ ?_
    rotate_left
    · intro w'
      go_simp
      with_reducible rfl
    rotate_left
    · simp only [Act.put, List.setIfInBounds_toArray, List.set_cons_zero, List.set_cons_succ, i64_w, i32_w]
      rfl
    refine take_ (i := 3) (N := some 43) (v := ?_) (a' := ?_) #[true, false, true, true, false, false, false] rfl rfl (by kernel_rfl) (fun _ _ _ h => h) (Or.inl ⟨by rfl, ?_⟩) hHeld ?_ ?_
    rotate_left
    · rintro w' s0_
      go_simp
      with_reducible rfl
    rotate_left
    · simp only [Act.put, List.setIfInBounds_toArray, List.set_cons_zero, List.set_cons_succ, i64_w, i32_w]
      rfl
    refine one_ (i := 1) (N := some 41) #[true, true, true, true, false, false, false] rfl rfl (by kernel_rfl) (by decide) (fun K hK => ?_)
    refine goes_ Try.func11 (by kernel_rfl) rfl #[.string s] (by rfl) rfl rfl (by (try simp only [List.map_toArray, List.map_cons, List.map_nil]); first | done | rfl) ?_
    refine (slab_Sum.calls s _ w4.drew HSM.out).mono ?_
    rintro e' w5 ⟨rfl, hb5⟩
    refine ⟨_, rfl, ?_⟩
    have h45 := Arr.below_trans (Below.refl w4.heap.size w4).drew hb5
    have HB5 := Aside0.mk (Arr.below_trans HB4.out h45)
    refine hK _ _ (HC.out w5 h45) (fun _ => ?_)
    clear hK K hb5
    refine norm_ (a' := ?_) ?_ ?_
    rotate_left
    · show Act.put _ (some 41) _ = _
      simp only [Act.put, List.setIfInBounds_toArray, List.set_cons_zero, List.set_cons_succ, i64_w, i32_w]
      rfl
    refine one_ (i := 4) (N := some 44) #[true, true, true, true, true, false, false] rfl rfl (by kernel_rfl) (by decide) (fun K hK => ?_)
    refine goes_ Try.func11 (by kernel_rfl) rfl #[.string t] (by rfl) rfl rfl (by (try simp only [List.map_toArray, List.map_cons, List.map_nil]); first | done | rfl) ?_
    refine (slab_Sum.calls t _ w5 HT.out).mono ?_
    rintro e' w6 ⟨rfl, hb6⟩
    refine ⟨_, rfl, ?_⟩
    have HB6 := Aside0.mk (Arr.below_trans HB5.out hb6)
    refine hK _ _ (HC.out w6 (Arr.below_trans h45 hb6)) (fun _ => ?_)
    clear hK K hb6 h45
    refine norm_ (a' := ?_) ?_ ?_
    rotate_left
    · show Act.put _ (some 44) _ = _
      simp only [Act.put, List.setIfInBounds_toArray, List.set_cons_zero, List.set_cons_succ, i64_w, i32_w]
      rfl
    refine pure_ (i := 5) (N := some 45) (v := ?_) (a' := ?_) #[true, true, true, true, true, true, false] rfl rfl (by kernel_rfl) (fun _ _ _ h => h) (Or.inl ⟨by rfl, ?_⟩) ?_ ?_
    rotate_left
    · intro w'
      go_simp
      with_reducible rfl
    rotate_left
    · simp only [Act.put, List.setIfInBounds_toArray, List.set_cons_zero, List.set_cons_succ, i64_w, i32_w]
      rfl
    refine pure_ (i := 6) (N := some 6) (v := ?_) (a' := ?_) #[true, true, true, true, true, true, true] rfl rfl (by kernel_rfl) (fun _ _ _ h => h) (Or.inl ⟨by rfl, ?_⟩) ?_ ?_
    rotate_left
    · intro w'
      go_simp
      with_reducible rfl
    rotate_left
    · simp only [Act.put, List.setIfInBounds_toArray, List.set_cons_zero, List.set_cons_succ, i64_w, i32_w]
      rfl
    refine done_ (by kernel_rfl) ?_
    clear hHeld hc0
    go_wp2
    go_ret
    exact ⟨congrArg (fun b => Ending.returned (.bool b)) HN.out, HB6.out⟩
noncomputable def careenlaw01_SlabSums.f (a0 : ByteArray) (a1 a2 : Int) : Option Bool := if 0 ≤ a2 ∧ a2 < 256 then some true else none
theorem careenlaw01_SlabSums.calls (a0 : ByteArray) (a1 a2 : Int) (r : Bool) (w : World) (h : careenlaw01_SlabSums.f a0 a1 a2 = some r) :
    Calls Try.prog 8 #[.string a0, .int .i64 a1, .int .u8 a2] w fun e w' => e = .returned (.bool r) ∧ Below w.heap.size w w' := by
  unfold careenlaw01_SlabSums.f at h
  by_cases hf : 0 ≤ a2 ∧ a2 < 256
  · rw [if_pos hf] at h
    obtain rfl := Option.some.inj h
    have e : ((UInt8.ofNat a2.toNat).toNat : Int) = a2 := by rw [UInt8.toNat_ofNat']; omega
    have k := sums_walk a0 a1 (UInt8.ofNat a2.toNat) w
    rw [e] at k
    exact k
  · rw [if_neg hf] at h
    cases h
end Go.Proofs.Ytigfeafenjfdlaa.X1
