import Derived.Test.YtbdfdfahpdilpaaSlab
/-! Layer 1: the two sums. -/
namespace Go.Proofs.Ytbdfdfahpdilpaa.Slab
open Go Go.RowKit Go.Proofs.Ytbdfdfahpdilpaa.Arr Go.Proofs.YtbdfdfahpdilpaaW.PrintWords Go.Proofs.YtbdfdfahpdilpaaW.PrintMore
set_option linter.unusedVariables false
attribute [local go_sem] bits_xor bits_and bits_and1 bits_andp bits_and15 bits_xorf neg32 shr32_1 shr32_4
/-- The sum's state behind the first k bytes. -/
def sumTo (s : ByteArray) (k : Nat) : B32 := (s.data.toList.take k).foldl byteS 0xFFFFFFFF#32
theorem sumTo_succ (s : ByteArray) (k : Nat) (h : k < s.size) : sumTo s (k + 1) = byteS (sumTo s k) s[k] := by
  have h1 : k < s.data.toList.length := by simpa using h
  unfold sumTo
  rw [List.take_succ_eq_append_getElem h1, List.foldl_append]
  rfl
theorem sumTo_all (s : ByteArray) : ~~~ (sumTo s s.size) = crc s := by
  unfold sumTo crc
  rw [List.take_of_length_le (Nat.le_of_eq (show s.data.toList.length = s.size from Array.length_toList ..))]
theorem zext (b : UInt8) : ((b.toNat : Nat) : Int) % 4294967296 = n32 (b.toBitVec.zeroExtend 32) := by
  unfold n32
  have h := b.toBitVec.isLt
  have e : b.toBitVec.toNat = b.toNat := rfl
  rw [show (BitVec.zeroExtend 32 b.toBitVec).toNat = b.toNat % 2 ^ 32 from by rw [BitVec.toNat_setWidth, e]]
  omega
theorem tab_at {w : World} {g : Nat} {T : TypeId} (h : w.heap[g]? = some (.cells (tab 16) T (0, 0))) (x : B32) : w.cell? ⟨g, (n32 (x &&& 15#32)).toNat, none⟩ = some (.int .u32 (n32 (nib (x &&& 15#32)))) ∧ 0 ≤ n32 (x &&& 15#32) ∧ n32 (x &&& 15#32) < 16 := by
  have hl : (x &&& 15#32).toNat < 16 := by
    rw [BitVec.toNat_and]
    exact Nat.lt_of_le_of_lt Nat.and_le_right (by decide)
  have e : (n32 (x &&& 15#32)).toNat = (x &&& 15#32).toNat := by unfold n32; simp
  refine ⟨?_, (n32_lt _).1, by unfold n32; omega⟩
  rw [e, (blk_cell h _).trans (tab_cell 16 _ hl), if_pos hl, BitVec.ofNat_toNat, BitVec.setWidth_eq]
  rfl
theorem bits_xorm (a : B32) : bits .xor .u32 IntKind.u32.max (n32 a) = n32 (~~~ a) := bits_xorf a
theorem sum_calls (s : ByteArray) (hs : s.size < 9223372036854775807) (w : World) : Calls Try.prog 59 #[.string s] w (Post (U (crc s)) w) := by
  go_enter Try.func59, Try.ntmps59
  go_upto_region 2 with (go_at_call 63; refine (table_calls _).mono ?_; rintro e w1 ⟨rfl, hb⟩; unfold tabV)
  rw [← tab16]
  have b0 := heap_alloc_new w1 (Obj.cells (tab 16) 114)
  have hB := below_trans hb ((Below.refl w1.heap.size w1).alloc (Nat.le_refl _) (Obj.cells (tab 16) 114))
  have B0 := Aside0.mk b0; have HB := Aside0.mk hB; clear b0 hB hb
  generalize w1.alloc (Obj.cells (tab 16) 114) = W at *
  generalize w1.heap.size = g at *
  go_upto_region 4 with (fail)
  go_loopw [4, 9] (fun v i wr => ∃ k : Nat, i = .int .i64 k ∧ v = .int .u32 (n32 (sumTo s k)) ∧ wr = W ∧ Aside0 (k ≤ s.size)) (fun _ i _ => s.size - (intOf i).toNat)
  case atStart => exact ⟨0, rfl, rfl, rfl, ⟨by omega⟩⟩
  case round =>
    obtain ⟨k, rfl, rfl, rfl, K⟩ := hrel
    by_cases hlt : (k : Int) < (s.size : Int)
    · have hk : k < s.size := by omega
      have hge : (0 : Int) ≤ (k : Int) := by omega
      have hwk : wrap64 ((k : Int) + 1) = ((k + 1 : Nat) : Int) := by unfold wrap64; omega
      go_upto_region 7 with (fail)
      rw [zext, bits_xor]
      have HS := Aside0.mk (show byteS (sumTo s k) s[k] = half (half (sumTo s k ^^^ BitVec.zeroExtend 32 s[k].toBitVec)) from rfl)
      generalize sumTo s k ^^^ BitVec.zeroExtend 32 s[k].toBitVec = x at *
      obtain ⟨t0, t1, t2⟩ := tab_at B0.out x
      go_upto_region 8 with (fail)
      have HY := Aside0.mk (show half x = x >>> 4 ^^^ nib (x &&& 15#32) from rfl)
      clear t0 t1 t2
      generalize x >>> 4 ^^^ nib (x &&& 15#32) = y at *
      obtain ⟨t0, t1, t2⟩ := tab_at B0.out y
      go_wp2
      have HZ : y >>> 4 ^^^ nib (y &&& 15#32) = sumTo s (k + 1) := by
        rw [sumTo_succ s k hk, HS.out, HY.out]; rfl
      clear t0 t1 t2
      go_roundw
      case rel => exact ⟨k + 1, by first | rw [hwk] | go_num, by rw [HZ], by trivial, ⟨by omega⟩⟩
      case measure =>
        try rw [hwk]
        simp [intOf]; omega
    · obtain rfl : k = s.size := by have := K.out; omega
      clear hlt
      go_wp2
      rw [bits_xorm, sumTo_all]
      go_ret
      exact ⟨rfl, HB.out⟩
end Go.Proofs.Ytbdfdfahpdilpaa.Slab
