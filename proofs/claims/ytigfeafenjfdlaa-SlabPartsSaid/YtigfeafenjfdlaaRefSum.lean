import Derived.Test.YtigfeafenjfdlaaCrc
/-! Layer 1: the document's sum, bit by bit. -/
namespace Go.Proofs.Ytigfeafenjfdlaa.Slab
open Go Go.RowKit Go.Proofs.Ytigfeafenjfdlaa.Arr Go.Proofs.YtigfeafenjfdlaaW.PrintWords Go.Proofs.YtigfeafenjfdlaaW.PrintMore
set_option linter.unusedVariables false
attribute [local go_sem] bits_xor bits_and bits_and1 bits_andp bits_and15 bits_xorf neg32 shr32_1 shr32_4
theorem odd32 (c : B32) : n32 c % 2 = if c.getLsbD 0 then 1 else 0 := by
  unfold n32
  have e : c.getLsbD 0 = c.toNat.testBit 0 := rfl
  rw [e, Nat.testBit_zero]
  by_cases h : c.toNat % 2 = 1
  · simp [h]; omega
  · simp [h]; omega
theorem bits_xorp (a : B32) : bits .xor .u32 (n32 a) 3988292384 = n32 (a ^^^ poly) := bits_xor a poly
theorem quo32 (a : B32) : Int.tdiv (n32 a) 2 % (4294967296 : Int) = n32 (a >>> 1) := by
  have h := n32_lt a
  rw [← shr32_1, Int.tdiv_eq_ediv_of_nonneg h.1]
  omega
theorem refsum_calls (s : ByteArray) (hs : s.size < 9223372036854775807) (w : World) : Calls Try.prog 12 #[.string s] w (Post (U (crc s)) w) := by
  go_enter Try.func12, Try.ntmps12
  go_upto_region 3 with (fail)
  go_loopw [3, 4] (fun v i wr => ∃ k : Nat, i = .int .i64 k ∧ v = .int .u32 (n32 (sumTo s k)) ∧ wr = w ∧ Aside0 (k ≤ s.size)) (fun _ i _ => s.size - (intOf i).toNat)
  case atStart => exact ⟨0, rfl, rfl, rfl, ⟨by omega⟩⟩
  case round =>
    obtain ⟨k, rfl, rfl, rfl, K⟩ := hrel
    by_cases hlt : (k : Int) < (s.size : Int)
    · have hk : k < s.size := by omega
      have hge : (0 : Int) ≤ (k : Int) := by omega
      have hwk : wrap64 ((k : Int) + 1) = ((k + 1 : Nat) : Int) := by unfold wrap64; omega
      go_upto_region 6 with (fail)
      rw [zext, bits_xor]
      have HS := Aside0.mk (byteS_eq (sumTo s k) s[k])
      generalize sumTo s k ^^^ BitVec.zeroExtend 32 s[k].toBitVec = x at *
      go_upto_region 7 with (fail)
      go_loopw [3, 5] (fun v i w1 => ∃ m : Nat, i = .int .i64 m ∧ v = .int .u32 (n32 (steps m x)) ∧ w1 = wr ∧ Aside0 (m ≤ 8)) (fun _ i _ => 8 - (intOf i).toNat)
      case atStart => exact ⟨0, rfl, rfl, rfl, ⟨by omega⟩⟩
      case round =>
        obtain ⟨m, rfl, rfl, rfl, M⟩ := hrel
        by_cases hm : (m : Int) < 8
        · have hm0 : (0 : Int) ≤ (m : Int) := by omega
          have HE := Aside0.mk (step_eq (steps m x))
          have ho := odd32 (steps m x)
          have hM : steps (m + 1) x = step (steps m x) := rfl
          rw [HE.out] at hM
          clear HE
          have hn := (n32_lt (steps m x)).1
          cases hb : (steps m x).getLsbD 0 with
          | true =>
            rw [hb, if_pos rfl] at ho hM
            have HM := Aside0.mk hM
            clear hb hM
            go_wp2
            rw [quo32, bits_xorp, ← HM.out]
            go_roundw
            case rel => exact ⟨m + 1, by go_num, rfl, by trivial, ⟨by omega⟩⟩
            case measure => simp [intOf]; omega
          | false =>
            rw [hb, if_neg (by decide)] at ho hM
            have HM := Aside0.mk hM
            clear hb hM
            go_wp2
            rw [quo32, ← HM.out]
            go_roundw
            case rel => exact ⟨m + 1, by go_num, rfl, by trivial, ⟨by omega⟩⟩
            case measure => simp [intOf]; omega
        · obtain rfl : m = 8 := by have := M.out; omega
          clear hm
          rw [← HS.out, ← sumTo_succ s k hk]
          go_wp2
          go_roundw
          case rel => exact ⟨k + 1, by first | rw [hwk] | go_num, rfl, by trivial, ⟨by omega⟩⟩
          case measure =>
            try rw [hwk]
            simp [intOf]; omega
    · obtain rfl : k = s.size := by have := K.out; omega
      clear hlt
      go_wp2
      rw [bits_xorm, sumTo_all]
      go_ret
      exact ⟨rfl, Below.refl _ _⟩
end Go.Proofs.Ytigfeafenjfdlaa.Slab
