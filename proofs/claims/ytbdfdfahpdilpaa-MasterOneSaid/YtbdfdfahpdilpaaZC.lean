import Derived.Test.YtbdfdfahpdilpaaProg
import Derived.Test.YtbdfdfahpdilpaaZA
import Derived.Test.YtbdfdfahpdilpaaWWords
import Derived.Test.YtbdfdfahpdilpaaWMore
import Derived.Deep.QuietTactic
import Derived.Deep.RegionLaw
import Derived.BigQuiet
import Derived.RegionTactic
import Derived.Outline
import Derived.Lib.Hide
import Derived.Deep.CutBlock
import Derived.Deep.DeepCutAuto
import Derived.Test.YtbdfdfahpdilpaaWLast
/-! Layer 1: the sum, bit by bit and by half bytes; a number in four bytes; a sector. -/
namespace Go.Proofs.Ytbdfdfahpdilpaa.Slab
open Go Go.RowKit Go.Proofs.Ytbdfdfahpdilpaa.Arr Go.Proofs.YtbdfdfahpdilpaaW.PrintWords Go.Proofs.YtbdfdfahpdilpaaW.PrintMore
set_option linter.unusedVariables false
def Post (v : Value) (w : World) (e : Ending) (w' : World) : Prop := e = .returned v ∧ Below w.heap.size w w'
/-! ### 1. 32 bits as a number -/
abbrev B32 := BitVec 32
def poly : B32 := 0xEDB88320#32
def n32 (c : B32) : Int := (c.toNat : Int)
def U (c : B32) : Value := .int .u32 (n32 c)
/-- One bit of the sum. -/
def step (c : B32) : B32 := (c >>> 1) ^^^ (poly &&& -(c &&& 1#32))
def steps : Nat → B32 → B32
  | 0, c => c
  | k + 1, c => step (steps k c)
/-- The sum of a half byte. -/
def nib (c : B32) : B32 := steps 4 c
def half (c : B32) : B32 := (c >>> 4) ^^^ nib (c &&& 15#32)
def byteS (c : B32) (b : UInt8) : B32 := half (half (c ^^^ b.toBitVec.zeroExtend 32))
def crc (s : ByteArray) : B32 := ~~~ (s.data.toList.foldl byteS 0xFFFFFFFF#32)
theorem n32_lt (c : B32) : 0 ≤ n32 c ∧ n32 c < 4294967296 := by
  have := c.isLt
  unfold n32
  omega
theorem of32 (c : B32) : BitVec.ofInt 32 (n32 c) = c := by unfold n32; simp
theorem w32 (c : B32) : IntKind.u32.wrap (n32 c) = n32 c := by have := n32_lt c; rw [IntKind.wrap_u32]; omega
theorem bits_xor (a b : B32) : bits .xor .u32 (n32 a) (n32 b) = n32 (a ^^^ b) := by
  show IntKind.u32.wrap (((BitVec.ofInt 32 (n32 a)) ^^^ (BitVec.ofInt 32 (n32 b))).toNat : Int) = _
  rw [of32, of32]; exact w32 _
theorem bits_and (a b : B32) : bits .and .u32 (n32 a) (n32 b) = n32 (a &&& b) := by
  show IntKind.u32.wrap (((BitVec.ofInt 32 (n32 a)) &&& (BitVec.ofInt 32 (n32 b))).toNat : Int) = _
  rw [of32, of32]; exact w32 _
theorem bits_and1 (a : B32) : bits .and .u32 (n32 a) 1 = n32 (a &&& 1#32) := bits_and a 1#32
theorem bits_and15 (a : B32) : bits .and .u32 (n32 a) 15 = n32 (a &&& 15#32) := bits_and a 15#32
theorem bits_andp (a : B32) : bits .and .u32 3988292384 (n32 a) = n32 (poly &&& a) := bits_and poly a
theorem bits_xorf (a : B32) : bits .xor .u32 4294967295 (n32 a) = n32 (~~~ a) := by
  have := bits_xor 0xFFFFFFFF#32 a
  rw [show (0xFFFFFFFF#32 ^^^ a) = ~~~ a from by rw [← BitVec.allOnes_xor]; rfl] at this
  exact this
theorem neg32 (a : B32) : IntKind.u32.wrap (0 - n32 a) = n32 (-a) := by
  rw [IntKind.wrap_u32]; unfold n32
  have := a.isLt
  rw [BitVec.toNat_neg]; omega
theorem neg32' (a : B32) : -n32 a % 4294967296 = n32 (-a) := by
  have := neg32 a
  rw [IntKind.wrap_u32] at this
  rw [← this]; congr 1; omega
theorem shr32_1 (a : B32) : n32 a / (2 : Int) = n32 (a >>> 1) := by unfold n32; simp [Nat.shiftRight_eq_div_pow]
theorem shr32_4 (a : B32) : n32 a / (16 : Int) = n32 (a >>> 4) := by unfold n32; simp [Nat.shiftRight_eq_div_pow]
/-- What lies in a table of half bytes' sums, the first k laid. -/
def tab (k : Nat) : Array Value := ((List.range 16).map fun i => if i < k then U (nib (BitVec.ofNat 32 i)) else .int .u32 0).toArray
set_option maxRecDepth 100000 in
theorem z45 (w : World) : (zeroValue 114).run Try.prog w = .ok (.agg (tab 0)) w := by kernel_rfl
def tabV : Value := .agg #[.int .u32 0, .int .u32 498536548, .int .u32 997073096, .int .u32 651767980, .int .u32 1994146192, .int .u32 1802195444, .int .u32 1303535960, .int .u32 1342533948, .int .u32 3988292384, .int .u32 4027552580, .int .u32 3604390888, .int .u32 3412177804, .int .u32 2607071920, .int .u32 2262029012, .int .u32 2685067896, .int .u32 3183342108]
theorem tab16 : tab 16 = #[.int .u32 0, .int .u32 498536548, .int .u32 997073096, .int .u32 651767980, .int .u32 1994146192, .int .u32 1802195444, .int .u32 1303535960, .int .u32 1342533948, .int .u32 3988292384, .int .u32 4027552580, .int .u32 3604390888, .int .u32 3412177804, .int .u32 2607071920, .int .u32 2262029012, .int .u32 2685067896, .int .u32 3183342108] := by
  rfl
theorem tab_set (k : Nat) (hk : k < 16) : (tab k).setIfInBounds k (U (nib (BitVec.ofNat 32 k))) = tab (k + 1) := by
  unfold tab
  rw [List.setIfInBounds_toArray]
  congr 1
  apply List.ext_getElem (by simp)
  intro n h1 h2
  rw [List.getElem_set]
  simp only [List.getElem_map, List.getElem_range]
  by_cases e : k = n
  · subst e; simp
  · rw [if_neg e]
    by_cases f : n < k
    · rw [if_pos f, if_pos (by omega)]
    · rw [if_neg f, if_neg (by omega)]
theorem tab_cell (k i : Nat) (hi : i < 16) : (tab k)[i]? = some (if i < k then U (nib (BitVec.ofNat 32 i)) else .int .u32 0) := by
  unfold tab
  simp [hi]
attribute [local go_sem] bits_xor bits_and bits_and1 bits_andp bits_and15 bits_xorf neg32 shr32_1 shr32_4
section
variable {P : Program}
theorem results_c {fn : Func} {p : Tmp} {ty : TypeId} (h : fn.results = #[.cell p ty]) (tmps : Array Value) (w : World) (g : Nat) (t : TypeId) (cs : Array Value) (fr : Nat × Nat) (d : TypeDesc)
    (hp : tmps.getD p undef = .pointer (some ⟨g, 0, none⟩)) (hg : w.heap[g]? = some (.cells cs t fr))
    (hu : P.underlying ty = some d) (hd : (match d with | .struct _ | .array _ _ => true | _ => false) = true) (hi : (P.info? ty).map (·.size) = some cs.size) :
    (results fn tmps).run P w = .ok (.agg cs) w := by
  have hp' : tmps[p]?.getD undef = .pointer (some ⟨g, 0, none⟩) := by simpa using hp
  simp [results, h, hp', asAddr, run_loadVar_row w g t ty cs fr d hg hu hd hi]
end
set_option maxRecDepth 20000 in
theorem table_calls (w : World) : Calls Try.prog 63 #[] w (Post tabV w) := by
  have h45 := z45
  go_enter Try.func63, Try.ntmps63
  go_upto_region 1 with (fail)
  have b0 := heap_alloc_new w (Obj.cells (tab 0) 114)
  have hB := (Below.refl w.heap.size w).alloc (Nat.le_refl _) (Obj.cells (tab 0) 114)
  have B0 := Aside0.mk b0; have HB := Aside0.mk hB; clear b0 hB h45
  generalize w.alloc (Obj.cells (tab 0) 114) = W at *
  go_upto_region 2 with (fail)
  go_loopw [1, 2, 3] (fun v1 v2 i wr => ∃ k : Nat, i = .int .i64 k ∧ Aside0 (k ≤ 16) ∧ Aside0 (wr.heap[w.heap.size]? = some (.cells (tab k) 114 (0, 0))) ∧ Aside0 (Below w.heap.size w wr)) (fun _ _ i _ => 16 - (intOf i).toNat)
  case atStart => exact ⟨0, rfl, ⟨by omega⟩, B0, HB⟩
  case round =>
    clear B0 HB
    obtain ⟨k, rfl, K, B0, HB⟩ := hrel
    by_cases hlt : (k : Int) < 16
    · have hk : k < 16 := by omega
      have hge : (0 : Int) ≤ (k : Int) := by omega
      have hw : IntKind.u32.wrap (k : Int) = n32 (BitVec.ofNat 32 k) := by
        rw [IntKind.wrap_u32]; unfold n32; rw [BitVec.toNat_ofNat]; omega
      go_upto_region 6 with (fail)
      clear hw
      go_loopw [2, 8] (fun v i w1 => ∃ m : Nat, i = .int .i64 m ∧ v = .int .u32 (n32 (steps m (BitVec.ofNat 32 k))) ∧ w1 = wr ∧ Aside0 (m ≤ 4)) (fun _ i _ => 4 - (intOf i).toNat)
      case atStart => exact ⟨0, rfl, rfl, rfl, ⟨by omega⟩⟩
      case round =>
        obtain ⟨m, rfl, rfl, rfl, M⟩ := hrel
        by_cases hm : (m : Int) < 4
        · have hm0 : (0 : Int) ≤ (m : Int) := by omega
          go_wp2
          go_roundw
          case rel =>
            refine ⟨m + 1, by go_num, ?_, by trivial, ⟨by omega⟩⟩
            rw [neg32', bits_andp, bits_xor]
            rfl
          case measure => simp [intOf]; omega
        · obtain rfl : m = 4 := by have := M.out; omega
          have c1 := (blk_cell B0.out k).trans (tab_cell k k hk)
          rw [if_neg (Nat.lt_irrefl k)] at c1
          have f1 := blk_frozen B0.out k
          have i0 : (0 : Int) ≤ (k : Int) := by omega
          clear M hm
          go_wp2
          have B1 : (wr.setCell ⟨w.heap.size, k, none⟩ (.int .u32 (n32 (steps 4 (BitVec.ofNat 32 k))))).heap[w.heap.size]? = some (.cells (tab (k + 1)) 114 (0, 0)) := by
            have h2 := blk_set B0.out k (U (nib (BitVec.ofNat 32 k)))
            rw [tab_set k hk] at h2
            exact h2
          have HB1 := HB.out.setCell (p := ⟨w.heap.size, k, none⟩) (Nat.le_refl _) (.int .u32 (n32 (steps 4 (BitVec.ofNat 32 k))))
          go_roundw
          case rel => exact ⟨k + 1, by go_num, ⟨by omega⟩, ⟨B1⟩, ⟨HB1⟩⟩
          case measure => simp [intOf]; omega
    · obtain rfl : k = 16 := by have := K.out; omega
      clear K hlt
      have b := B0.out
      rw [tab16] at b
      have c0 := blk_cell b 0; have c1 := blk_cell b 1; have c2 := blk_cell b 2; have c3 := blk_cell b 3; have c4 := blk_cell b 4; have c5 := blk_cell b 5; have c6 := blk_cell b 6; have c7 := blk_cell b 7; have c8 := blk_cell b 8; have c9 := blk_cell b 9; have c10 := blk_cell b 10; have c11 := blk_cell b 11; have c12 := blk_cell b 12; have c13 := blk_cell b 13; have c14 := blk_cell b 14; have c15 := blk_cell b 15
      have f0 := blk_frozen b 0; have f1 := blk_frozen b 1; have f2 := blk_frozen b 2; have f3 := blk_frozen b 3; have f4 := blk_frozen b 4; have f5 := blk_frozen b 5; have f6 := blk_frozen b 6; have f7 := blk_frozen b 7; have f8 := blk_frozen b 8; have f9 := blk_frozen b 9; have f10 := blk_frozen b 10; have f11 := blk_frozen b 11; have f12 := blk_frozen b 12; have f13 := blk_frozen b 13; have f14 := blk_frozen b 14; have f15 := blk_frozen b 15
      clear b
      go_wp2
      have b := B0.out
      rw [tab16] at b
      have b2 := (blk_set (blk_set (blk_set (blk_set (blk_set (blk_set (blk_set (blk_set (blk_set (blk_set (blk_set (blk_set (blk_set (blk_set (blk_set (blk_set b 0 (.int .u32 0)) 1 (.int .u32 498536548)) 2 (.int .u32 997073096)) 3 (.int .u32 651767980)) 4 (.int .u32 1994146192)) 5 (.int .u32 1802195444)) 6 (.int .u32 1303535960)) 7 (.int .u32 1342533948)) 8 (.int .u32 3988292384)) 9 (.int .u32 4027552580)) 10 (.int .u32 3604390888)) 11 (.int .u32 3412177804)) 12 (.int .u32 2607071920)) 13 (.int .u32 2262029012)) 14 (.int .u32 2685067896)) 15 (.int .u32 3183342108))
      have hB2 := ((((((((((((((((HB.out.setCell (p := ⟨w.heap.size, 0, none⟩) (Nat.le_refl _) (.int .u32 0)).setCell (p := ⟨w.heap.size, 1, none⟩) (Nat.le_refl _) (.int .u32 498536548)).setCell (p := ⟨w.heap.size, 2, none⟩) (Nat.le_refl _) (.int .u32 997073096)).setCell (p := ⟨w.heap.size, 3, none⟩) (Nat.le_refl _) (.int .u32 651767980)).setCell (p := ⟨w.heap.size, 4, none⟩) (Nat.le_refl _) (.int .u32 1994146192)).setCell (p := ⟨w.heap.size, 5, none⟩) (Nat.le_refl _) (.int .u32 1802195444)).setCell (p := ⟨w.heap.size, 6, none⟩) (Nat.le_refl _) (.int .u32 1303535960)).setCell (p := ⟨w.heap.size, 7, none⟩) (Nat.le_refl _) (.int .u32 1342533948)).setCell (p := ⟨w.heap.size, 8, none⟩) (Nat.le_refl _) (.int .u32 3988292384)).setCell (p := ⟨w.heap.size, 9, none⟩) (Nat.le_refl _) (.int .u32 4027552580)).setCell (p := ⟨w.heap.size, 10, none⟩) (Nat.le_refl _) (.int .u32 3604390888)).setCell (p := ⟨w.heap.size, 11, none⟩) (Nat.le_refl _) (.int .u32 3412177804)).setCell (p := ⟨w.heap.size, 12, none⟩) (Nat.le_refl _) (.int .u32 2607071920)).setCell (p := ⟨w.heap.size, 13, none⟩) (Nat.le_refl _) (.int .u32 2262029012)).setCell (p := ⟨w.heap.size, 14, none⟩) (Nat.le_refl _) (.int .u32 2685067896)).setCell (p := ⟨w.heap.size, 15, none⟩) (Nat.le_refl _) (.int .u32 3183342108))
      refine bodyPost_ret (results_c rfl _ _ _ _ _ _ _ rfl b2 Try.underlying114 rfl rfl) rfl ⟨rfl, hB2⟩
end Go.Proofs.Ytbdfdfahpdilpaa.Slab

/-! Layer 1: the two sums. -/
namespace Go.Proofs.Ytbdfdfahpdilpaa.Slab
open Go Go.RowKit Go.Proofs.Ytbdfdfahpdilpaa.Arr Go.Proofs.YtbdfdfahpdilpaaW.PrintWords Go.Proofs.YtbdfdfahpdilpaaW.PrintMore
set_option linter.unusedVariables false
attribute [local go_sem] bits_xor bits_and bits_and1 bits_andp bits_and15 bits_xorf neg32 shr32_1 shr32_4
/-- The sum's state behind the first k bytes. -/
def sumTo (s : ByteArray) (k : Nat) : B32 := (s.data.toList.take k).foldl byteS 0xFFFFFFFF#32
theorem sumTo_succ (s : ByteArray) (k : Nat) (h : k < s.size) : sumTo s (k + 1) = byteS (sumTo s k) s[k] := by
  have h1 : k < s.data.toList.length := by simpa using h
  unfold sumTo
  rw [List.take_succ_eq_append_getElem h1, List.foldl_append]
  rfl
theorem sumTo_all (s : ByteArray) : ~~~ (sumTo s s.size) = crc s := by
  unfold sumTo crc
  rw [List.take_of_length_le (Nat.le_of_eq (show s.data.toList.length = s.size from Array.length_toList ..))]
theorem zext (b : UInt8) : ((b.toNat : Nat) : Int) % 4294967296 = n32 (b.toBitVec.zeroExtend 32) := by
  unfold n32
  have h := b.toBitVec.isLt
  have e : b.toBitVec.toNat = b.toNat := rfl
  rw [show (BitVec.zeroExtend 32 b.toBitVec).toNat = b.toNat % 2 ^ 32 from by rw [BitVec.toNat_setWidth, e]]
  omega
theorem tab_at {w : World} {g : Nat} {T : TypeId} (h : w.heap[g]? = some (.cells (tab 16) T (0, 0))) (x : B32) : w.cell? ⟨g, (n32 (x &&& 15#32)).toNat, none⟩ = some (.int .u32 (n32 (nib (x &&& 15#32)))) ∧ 0 ≤ n32 (x &&& 15#32) ∧ n32 (x &&& 15#32) < 16 := by
  have hl : (x &&& 15#32).toNat < 16 := by
    rw [BitVec.toNat_and]
    exact Nat.lt_of_le_of_lt Nat.and_le_right (by decide)
  have e : (n32 (x &&& 15#32)).toNat = (x &&& 15#32).toNat := by unfold n32; simp
  refine ⟨?_, (n32_lt _).1, by unfold n32; omega⟩
  rw [e, (blk_cell h _).trans (tab_cell 16 _ hl), if_pos hl, BitVec.ofNat_toNat, BitVec.setWidth_eq]
  rfl
theorem bits_xorm (a : B32) : bits .xor .u32 IntKind.u32.max (n32 a) = n32 (~~~ a) := bits_xorf a
theorem sum_calls (s : ByteArray) (hs : s.size < 9223372036854775807) (w : World) : Calls Try.prog 59 #[.string s] w (Post (U (crc s)) w) := by
  go_enter Try.func59, Try.ntmps59
  go_upto_region 2 with (go_at_call 63; refine (table_calls _).mono ?_; rintro e w1 ⟨rfl, hb⟩; unfold tabV)
  rw [← tab16]
  have b0 := heap_alloc_new w1 (Obj.cells (tab 16) 114)
  have hB := below_trans hb ((Below.refl w1.heap.size w1).alloc (Nat.le_refl _) (Obj.cells (tab 16) 114))
  have B0 := Aside0.mk b0; have HB := Aside0.mk hB; clear b0 hB hb
  generalize w1.alloc (Obj.cells (tab 16) 114) = W at *
  generalize w1.heap.size = g at *
  go_upto_region 4 with (fail)
  go_loopw [4, 9] (fun v i wr => ∃ k : Nat, i = .int .i64 k ∧ v = .int .u32 (n32 (sumTo s k)) ∧ wr = W ∧ Aside0 (k ≤ s.size)) (fun _ i _ => s.size - (intOf i).toNat)
  case atStart => exact ⟨0, rfl, rfl, rfl, ⟨by omega⟩⟩
  case round =>
    obtain ⟨k, rfl, rfl, rfl, K⟩ := hrel
    by_cases hlt : (k : Int) < (s.size : Int)
    · have hk : k < s.size := by omega
      have hge : (0 : Int) ≤ (k : Int) := by omega
      have hwk : wrap64 ((k : Int) + 1) = ((k + 1 : Nat) : Int) := by unfold wrap64; omega
      go_upto_region 7 with (fail)
      rw [zext, bits_xor]
      have HS := Aside0.mk (show byteS (sumTo s k) s[k] = half (half (sumTo s k ^^^ BitVec.zeroExtend 32 s[k].toBitVec)) from rfl)
      generalize sumTo s k ^^^ BitVec.zeroExtend 32 s[k].toBitVec = x at *
      obtain ⟨t0, t1, t2⟩ := tab_at B0.out x
      go_upto_region 8 with (fail)
      have HY := Aside0.mk (show half x = x >>> 4 ^^^ nib (x &&& 15#32) from rfl)
      clear t0 t1 t2
      generalize x >>> 4 ^^^ nib (x &&& 15#32) = y at *
      obtain ⟨t0, t1, t2⟩ := tab_at B0.out y
      go_wp2
      have HZ : y >>> 4 ^^^ nib (y &&& 15#32) = sumTo s (k + 1) := by
        rw [sumTo_succ s k hk, HS.out, HY.out]; rfl
      clear t0 t1 t2
      go_roundw
      case rel => exact ⟨k + 1, by first | rw [hwk] | go_num, by rw [HZ], by trivial, ⟨by omega⟩⟩
      case measure =>
        try rw [hwk]
        simp [intOf]; omega
    · obtain rfl : k = s.size := by have := K.out; omega
      clear hlt
      go_wp2
      rw [bits_xorm, sumTo_all]
      go_ret
      exact ⟨rfl, HB.out⟩
end Go.Proofs.Ytbdfdfahpdilpaa.Slab

/-! Layer 1: the sum's plain laws: a half byte's step is four bits' steps; each step is one to one. -/
namespace Go.Proofs.Ytbdfdfahpdilpaa.Slab
open Go Go.RowKit Go.Proofs.Ytbdfdfahpdilpaa.Arr Go.Proofs.YtbdfdfahpdilpaaW.PrintWords
set_option linter.unusedVariables false
theorem low_bit (c : B32) : c &&& 1#32 = if c.getLsbD 0 then 1#32 else 0#32 := by
  apply BitVec.eq_of_getLsbD_eq
  intro i hi
  rw [BitVec.getLsbD_and]
  by_cases h : i = 0
  · subst h
    cases hc : c.getLsbD 0 <;> simp
  · have : (1#32).getLsbD i = false := by
      rw [BitVec.getLsbD_one]
      simp [h]
    rw [this, Bool.and_false]
    cases hc : c.getLsbD 0
    · simp
    · simp [this]
theorem step_eq (c : B32) : step c = if c.getLsbD 0 then (c >>> 1) ^^^ poly else c >>> 1 := by
  unfold step
  rw [low_bit]
  cases c.getLsbD 0
  · simp
  · simp only [if_true]
    congr 1
theorem step_even (c : B32) (h : c.getLsbD 0 = false) : step c = c >>> 1 := by rw [step_eq, h]; rfl
theorem step_lin (a b : B32) : step (a ^^^ b) = step a ^^^ step b := by
  have hs : (a ^^^ b) >>> 1 = (a >>> 1) ^^^ (b >>> 1) := by
    apply BitVec.eq_of_getLsbD_eq; intro i hi; simp
  rw [step_eq, step_eq, step_eq, BitVec.getLsbD_xor, hs]
  have e : ∀ x y p : B32, x ^^^ p ^^^ (y ^^^ p) = x ^^^ y := by
    intro x y p
    apply BitVec.eq_of_getLsbD_eq; intro i hi
    simp only [BitVec.getLsbD_xor]
    cases x.getLsbD i <;> cases y.getLsbD i <;> cases p.getLsbD i <;> rfl
  have e1 : ∀ x y p : B32, x ^^^ y ^^^ p = x ^^^ p ^^^ y := fun x y p => by rw [BitVec.xor_assoc, BitVec.xor_comm y p, ← BitVec.xor_assoc]
  cases a.getLsbD 0 <;> cases b.getLsbD 0 <;> simp only [Bool.xor_false, Bool.xor_true, Bool.not_false, Bool.not_true, if_true, if_false, Bool.false_eq_true]
  · rw [BitVec.xor_assoc]
  · exact e1 _ _ _
  · exact (e _ _ _).symm
theorem steps_lin (k : Nat) (a b : B32) : steps k (a ^^^ b) = steps k a ^^^ steps k b := by
  induction k with
  | zero => rfl
  | succ k ih => show step (steps k (a ^^^ b)) = _; rw [ih, step_lin]; rfl
theorem steps_add (m k : Nat) (c : B32) : steps (m + k) c = steps m (steps k c) := by
  induction m with
  | zero => rw [Nat.zero_add]; rfl
  | succ m ih => rw [show m + 1 + k = (m + k) + 1 by omega]; show step (steps (m + k) c) = _; rw [ih]; rfl
theorem half_eq (x : B32) : half x = steps 4 x := by
  have hx : x = (x >>> 4 <<< 4) ^^^ (x &&& 15#32) := by
    apply BitVec.eq_of_getLsbD_eq; intro i hi
    simp only [BitVec.getLsbD_xor, BitVec.getLsbD_and, BitVec.getLsbD_shiftLeft, BitVec.getLsbD_ushiftRight]
    by_cases h : i < 4
    · have : (15#32).getLsbD i = true := by
        rcases (show i = 0 ∨ i = 1 ∨ i = 2 ∨ i = 3 by omega) with rfl | rfl | rfl | rfl <;> rfl
      simp [h, this]
    · have h15 : (15#32).getLsbD i = false := by
        have : (15 : Nat).testBit i = false := Nat.testBit_lt_two_pow (Nat.lt_of_lt_of_le (by decide : 15 < 2 ^ 4) (Nat.pow_le_pow_right (by decide) (by omega)))
        simp [BitVec.getLsbD_ofNat, this]
      have h15' : (15#32)[i] = false := by rw [← BitVec.getLsbD_eq_getElem]; exact h15
      simp [h, h15', hi, show 4 + (i - 4) = i by omega]
  have e1 : steps 4 (x >>> 4 <<< 4) = x >>> 4 := by
    have b : ∀ j, j < 4 → ((x >>> 4 <<< 4) >>> j).getLsbD 0 = false := by
      intro j hj; simp [hj]
    have c : ∀ j, j ≤ 4 → steps j (x >>> 4 <<< 4) = (x >>> 4 <<< 4) >>> j := by
      intro j
      induction j with
      | zero => intro _; simp [steps]
      | succ j ih =>
        intro hj
        show step (steps j _) = _
        rw [ih (by omega), step_even _ (b j (by omega)), ← BitVec.shiftRight_add]
    rw [c 4 (Nat.le_refl _)]
    apply BitVec.eq_of_getLsbD_eq; intro i hi
    simp
    intro h
    exact Classical.byContradiction fun q => by rw [BitVec.getLsbD_of_ge _ _ (by omega)] at h; cases h
  unfold half nib
  conv => rhs; rw [hx, steps_lin, e1]
theorem byteS_eq (c : B32) (b : UInt8) : byteS c b = steps 8 (c ^^^ b.toBitVec.zeroExtend 32) := by
  unfold byteS
  rw [half_eq, half_eq, ← steps_add]
theorem step_inj0 (c : B32) (h : step c = 0#32) : c = 0#32 := by
  rw [step_eq] at h
  have top : (c >>> 1).getLsbD 31 = false := by simp
  cases hc : c.getLsbD 0 with
  | true =>
    rw [hc, if_pos rfl] at h
    have := congrArg (fun x : B32 => x.getLsbD 31) h
    simp only [BitVec.getLsbD_xor, top] at this
    exact absurd this (by decide)
  | false =>
    rw [hc, if_neg (by decide)] at h
    apply BitVec.eq_of_getLsbD_eq
    intro i hi
    by_cases i0 : i = 0
    · subst i0; rw [hc]; simp
    · have := congrArg (fun x : B32 => x.getLsbD (i - 1)) h
      simp only [BitVec.getLsbD_ushiftRight, show 1 + (i - 1) = i by omega] at this
      rw [this]; simp
theorem xor_zero_eq {a b : B32} (h : a ^^^ b = 0#32) : a = b := by
  have : a ^^^ b ^^^ b = 0#32 ^^^ b := by rw [h]
  rwa [BitVec.xor_assoc, BitVec.xor_self, BitVec.xor_zero, BitVec.zero_xor] at this
theorem step_inj (a b : B32) (h : step a = step b) : a = b := by
  apply xor_zero_eq
  apply step_inj0
  rw [step_lin, h, BitVec.xor_self]
theorem steps_inj (k : Nat) (a b : B32) (h : steps k a = steps k b) : a = b := by
  induction k with
  | zero => exact h
  | succ k ih => exact ih (step_inj _ _ h)
theorem byteS_inj_c (a b : B32) (x : UInt8) (h : byteS a x = byteS b x) : a = b := by
  rw [byteS_eq, byteS_eq] at h
  have := steps_inj 8 _ _ h
  have e : a ^^^ BitVec.zeroExtend 32 x.toBitVec ^^^ BitVec.zeroExtend 32 x.toBitVec = b ^^^ BitVec.zeroExtend 32 x.toBitVec ^^^ BitVec.zeroExtend 32 x.toBitVec := by rw [this]
  rwa [BitVec.xor_assoc, BitVec.xor_self, BitVec.xor_zero, BitVec.xor_assoc, BitVec.xor_self, BitVec.xor_zero] at e
theorem byteS_inj_x (a : B32) (x y : UInt8) (h : byteS a x = byteS a y) : x = y := by
  rw [byteS_eq, byteS_eq] at h
  have := steps_inj 8 _ _ h
  rw [BitVec.xor_comm a, BitVec.xor_comm a] at this
  have e : BitVec.zeroExtend 32 x.toBitVec ^^^ a ^^^ a = BitVec.zeroExtend 32 y.toBitVec ^^^ a ^^^ a := by rw [this]
  rw [BitVec.xor_assoc, BitVec.xor_self, BitVec.xor_zero, BitVec.xor_assoc, BitVec.xor_self, BitVec.xor_zero] at e
  have e2 : (BitVec.setWidth 32 x.toBitVec).toNat = (BitVec.setWidth 32 y.toBitVec).toNat := congrArg BitVec.toNat e
  rw [BitVec.toNat_setWidth, BitVec.toNat_setWidth] at e2
  have hx := x.toBitVec.isLt; have hy := y.toBitVec.isLt
  apply UInt8.eq_of_toBitVec_eq
  apply BitVec.eq_of_toNat_eq
  omega
theorem fold_inj (l : List UInt8) (a b : B32) (h : l.foldl byteS a = l.foldl byteS b) : a = b := by
  induction l generalizing a b with
  | nil => exact h
  | cons x r ih => exact byteS_inj_c a b x (ih _ _ h)
/-- Texts that differ in one byte have unlike sums. -/
theorem crc_one (p q : List UInt8) (x y : UInt8) (c : B32) (h : (p ++ x :: q).foldl byteS c = (p ++ y :: q).foldl byteS c) : x = y := by
  rw [List.foldl_append, List.foldl_append] at h
  exact byteS_inj_x _ x y (fold_inj q _ _ h)
end Go.Proofs.Ytbdfdfahpdilpaa.Slab

/-! Layer 1: a number put into four bytes; a sector of noughts; a slab's sector. -/
namespace Go.Proofs.Ytbdfdfahpdilpaa.Slab
open Go Go.RowKit Go.Proofs.Ytbdfdfahpdilpaa.Arr Go.Proofs.YtbdfdfahpdilpaaW.PrintWords Go.Proofs.YtbdfdfahpdilpaaW.PrintLast Go.Proofs.YtbdfdfahpdilpaaW.PrintMore
set_option linter.unusedVariables false
set_option linter.unusedSimpArgs false
set_option maxRecDepth 100000 in
theorem z128 (w : World) : (zeroValue 102).run Try.prog w = .ok (.agg (row (noughts 128))) w := by rw [row_noughts]; kernel_rfl
/-- A byte set. -/
def setB (s : ByteArray) (i : Nat) (b : UInt8) : ByteArray := ⟨s.data.setIfInBounds i b⟩
theorem setB_size (s : ByteArray) (i : Nat) (b : UInt8) : (setB s i b).size = s.size := Array.size_setIfInBounds ..
theorem row_setB (s : ByteArray) (i : Nat) (v : Int) (h0 : 0 ≤ v) (h1 : v < 256) : (row s).setIfInBounds i (.int .u8 v) = row (setB s i (UInt8.ofNat v.toNat)) := by
  apply Array.toList_inj.1
  have e : ((UInt8.ofNat v.toNat).toNat : Int) = v := by
    rw [UInt8.toNat_ofNat']; omega
  simp only [row, setB, Lib.byteCells, Array.toList_setIfInBounds, List.map_set, e]
/-- Four bytes of a number, the highest first; the lowest first. -/
def be (a : Int) (i : Nat) : UInt8 := UInt8.ofNat ((a / 2 ^ (24 - 8 * i)) % 256).toNat
def le (a : Int) (i : Nat) : UInt8 := UInt8.ofNat ((a / 2 ^ (8 * i)) % 256).toNat
def laid (s : ByteArray) (o : Nat) (b : Nat → UInt8) : Nat → ByteArray
  | 0 => s
  | k + 1 => setB (laid s o b k) (o + k) (b k)
theorem laid_size (s : ByteArray) (o : Nat) (b : Nat → UInt8) (k : Nat) : (laid s o b k).size = s.size := by
  induction k with
  | zero => rfl
  | succ k ih => rw [laid, setB_size, ih]
theorem store_laid {w : World} {g : Nat} {T : TypeId} {s : ByteArray} {o : Nat} {b : Nat → UInt8} (k : Nat) (h : w.heap[g]? = some (.cells (row (laid s o b k)) T (0, 0))) (v : Int) (hv : UInt8.ofNat v.toNat = b k) (h0 : 0 ≤ v) (h1 : v < 256) : (w.setCell ⟨g, o + k, none⟩ (.int .u8 v)).heap[g]? = some (.cells (row (laid s o b (k + 1))) T (0, 0)) := by
  have h2 := blk_set h (o + k) (.int .u8 v)
  rw [row_setB _ _ _ h0 h1, hv] at h2
  exact h2
theorem put_calls (s : ByteArray) (T : TypeId) (o g len cap : Nat) (n : B32) (w : World) (hg : w.heap[g]? = some (.cells (row s) T (0, 0))) (ho : o + 4 ≤ s.size) (hl : 4 ≤ len) :
    Calls Try.prog 58 #[.slice (some ⟨g, o, none⟩) len cap, U n] w fun e w' => e = .returned (.tuple #[]) ∧ w'.heap[g]? = some (.cells (row (laid s o (be (n32 n)) 4)) T (0, 0)) ∧ Below g w w' := by
  have hn := n32_lt n
  unfold U
  generalize hm : n32 n = m at *
  have HM := Aside0.mk hm; clear hm
  have B0 := Aside0.mk hg; clear hg
  have HB := Aside0.mk (Below.refl g w)
  go_enter Try.func58, Try.ntmps58
  go_upto_region 1 with (fail)
  go_loopw [5] (fun i wr => ∃ k : Nat, i = .int .i64 k ∧ Aside0 (k ≤ 4) ∧ Aside0 (wr.heap[g]? = some (.cells (row (laid s o (be m) k)) T (0, 0))) ∧ Aside0 (Below g w wr)) (fun i _ => 4 - (intOf i).toNat)
  case atStart => exact ⟨0, rfl, ⟨by omega⟩, B0, HB⟩
  case round =>
    clear B0 HB
    obtain ⟨k, rfl, hk, B0, HB⟩ := hrel
    rcases (show k = 0 ∨ k = 1 ∨ k = 2 ∨ k = 3 ∨ k = 4 by have := hk.out; omega) with rfl | rfl | rfl | rfl | rfl
    · have c1 : wr.cell? ⟨g, o, none⟩ = _ := (blk_cell B0.out (o + 0)).trans (row_cell _ (o + 0) (by rw [laid_size]; omega))
      have f1 : wr.frozen? ⟨g, o, none⟩ = false := blk_frozen B0.out (o + 0)
      have i0 : (0 : Int) < (len : Int) := by omega
      go_wp2
      have B3 := store_laid 0 B0.out (m / 16777216) (by unfold be; congr 2 <;> omega) (by omega) (by omega)
      have HB3 := HB.out.setCell (p := ⟨g, o + 0, none⟩) (Nat.le_refl g) (.int .u8 (m / 16777216))
      go_roundw
      case rel => exact ⟨1, rfl, ⟨by omega⟩, ⟨B3⟩, ⟨HB3⟩⟩
      case measure => simp [intOf]
    · have c1 : wr.cell? ⟨g, o + 1, none⟩ = _ := (blk_cell B0.out (o + 1)).trans (row_cell _ (o + 1) (by rw [laid_size]; omega))
      have f1 : wr.frozen? ⟨g, o + 1, none⟩ = false := blk_frozen B0.out (o + 1)
      have i0 : (1 : Int) < (len : Int) := by omega
      go_wp2
      have B3 := store_laid 1 B0.out (m / 65536 % 256) (by unfold be; congr 2 <;> omega) (by omega) (by omega)
      have HB3 := HB.out.setCell (p := ⟨g, o + 1, none⟩) (Nat.le_refl g) (.int .u8 (m / 65536 % 256))
      go_roundw
      case rel => exact ⟨2, rfl, ⟨by omega⟩, ⟨B3⟩, ⟨HB3⟩⟩
      case measure => simp [intOf]
    · have c1 : wr.cell? ⟨g, o + 2, none⟩ = _ := (blk_cell B0.out (o + 2)).trans (row_cell _ (o + 2) (by rw [laid_size]; omega))
      have f1 : wr.frozen? ⟨g, o + 2, none⟩ = false := blk_frozen B0.out (o + 2)
      have i0 : (2 : Int) < (len : Int) := by omega
      go_wp2
      have B3 := store_laid 2 B0.out (m / 256 % 256) (by unfold be; congr 2 <;> omega) (by omega) (by omega)
      have HB3 := HB.out.setCell (p := ⟨g, o + 2, none⟩) (Nat.le_refl g) (.int .u8 (m / 256 % 256))
      go_roundw
      case rel => exact ⟨3, rfl, ⟨by omega⟩, ⟨B3⟩, ⟨HB3⟩⟩
      case measure => simp [intOf]
    · have c1 : wr.cell? ⟨g, o + 3, none⟩ = _ := (blk_cell B0.out (o + 3)).trans (row_cell _ (o + 3) (by rw [laid_size]; omega))
      have f1 : wr.frozen? ⟨g, o + 3, none⟩ = false := blk_frozen B0.out (o + 3)
      have i0 : (3 : Int) < (len : Int) := by omega
      go_wp2
      have B3 := store_laid 3 B0.out (m % 256) (by unfold be; congr 2 <;> omega) (by omega) (by omega)
      have HB3 := HB.out.setCell (p := ⟨g, o + 3, none⟩) (Nat.le_refl g) (.int .u8 (m % 256))
      go_roundw
      case rel => exact ⟨4, rfl, ⟨by omega⟩, ⟨B3⟩, ⟨HB3⟩⟩
      case measure => simp [intOf]
    · clear hk
      go_wp2
      have hm := HM.out
      first | go_end0 | ((try simp only [Exit.inBlock, Exit.then]); refine bodyPost_end (results_none rfl _ _ _) rfl ?_)
      subst hm
      exact ⟨rfl, B0.out, HB.out⟩
theorem zero_calls (w : World) : Calls Try.prog 39 #[] w (Post (.string (noughts 128)) w) := by
  have h43 := z128
  go_enter Try.func39, Try.ntmps39
  go_upto_region 2 with (fail)
  have b0 := heap_alloc_new w (Obj.cells (row (noughts 128)) 102)
  have hB := (Below.refl w.heap.size w).alloc (Nat.le_refl _) (Obj.cells (row (noughts 128)) 102)
  have cv := conv_whole b0 23 5 9 Try.underlying23 Try.underlying5 Try.underlying9 128 128 (noughts_size 128)
  clear h43
  generalize w.alloc (Obj.cells (row (noughts 128)) 102) = W at *
  go_wp2
  go_ret
  exact ⟨rfl, hB⟩
/-- The sector ahead of its sum; with it. -/
def bare (e i : B32) (b : ByteArray) : ByteArray := splice (setB (laid (laid (noughts 128) 0 (be (n32 e)) 4) 4 (be (n32 i)) 4) 9 (UInt8.ofNat b.size)) 12 b
def sector (e i : B32) (b : ByteArray) : ByteArray := laid (bare e i b) 124 (le (n32 (crc ((bare e i b).extract 0 124)))) 4
def packF (e i : B32) (b : ByteArray) : ByteArray × Int := if b.size ≤ 112 then (sector e i b, 0) else (⟨#[]⟩, 1)
set_option maxRecDepth 4096 in
theorem pack_calls (e i : B32) (b : ByteArray) (w : World) : Calls Try.prog 53 #[.agg #[U e, U i, .string b]] w (Post (.tuple #[.string (packF e i b).1, .int .i64 (packF e i b).2]) w) := by
  unfold packF
  by_cases hb : b.size ≤ 112
  · rw [if_pos hb]
    have d0 : decide ((112 : Int) < (b.size : Int)) = false := by rw [decide_eq_false_iff_not]; omega
    go_enter Try.func53, Try.ntmps53
    go_upto_region 1 with (fail)
    have b0 := heap_alloc_new w (Obj.cells #[U e, U i, .string b] 99)
    have hB := (Below.refl w.heap.size w).alloc (Nat.le_refl _) (Obj.cells #[U e, U i, .string b] 99)
    generalize w.alloc (Obj.cells #[U e, U i, .string b] 99) = W at *
    have c2 := blk_cell b0 2
    have B0 := Aside0.mk b0; have HB := Aside0.mk hB; clear b0 hB
    have h43 := z128
    go_upto_region 4 with (fail)
    have e0 := blk_alloc B0.out (Obj.cells (row (noughts 128)) 102)
    have e1 := heap_alloc_new W (Obj.cells (row (noughts 128)) 102)
    have hz : w.heap.size < W.heap.size := blk_lt B0.out
    have hB3 := HB.out.alloc (Nat.le_of_lt hz) (Obj.cells (row (noughts 128)) 102)
    have B02 := Aside0.mk e0; have B12 := Aside0.mk e1; have HB2 := Aside0.mk hB3
    clear B0 HB c2 h43 e0 e1 hB3 d0
    generalize W.alloc (Obj.cells (row (noughts 128)) 102) = w2 at *
    generalize W.heap.size = g at *
    have c0 := blk_cell B02.out 0
    refine start_ (n := 4) (S := fun w' => w'.cell? ⟨w.heap.size, 0, none⟩ = some (U e)) (ds := []) #[false, false, false, false] (by kernel_rfl) rfl rfl c0 (fun hHeld => ?_)
    refine pure_ (i := 0) (N := some 11) (v := ?_) (a' := ?_) #[true, false, false, false] rfl rfl (by kernel_rfl) (fun _ _ _ h => h) (Or.inl ⟨by kernel_rfl, ?_⟩) ?_ ?_
    rotate_left
    · intro w'
      go_simp
      with_reducible rfl
    rotate_left
    · simp only [Act.put, List.setIfInBounds_toArray, List.set_cons_zero, List.set_cons_succ, i64_w, i32_w]
      rfl
    refine pure_ (i := 1) (N := some 12) (v := ?_) (a' := ?_) #[true, true, false, false] rfl rfl (by kernel_rfl) (fun _ _ _ h => h) (Or.inl ⟨by kernel_rfl, ?_⟩) ?_ ?_
    rotate_left
    · intro w'
      go_simp
      with_reducible rfl
    rotate_left
    · simp only [Act.put, List.setIfInBounds_toArray, List.set_cons_zero, List.set_cons_succ, i64_w, i32_w]
      rfl
    refine take_ (i := 2) (N := some 13) (v := ?_) (a' := ?_) #[true, true, true, false] rfl rfl (by kernel_rfl) (fun _ _ _ h => h) (Or.inl ⟨by kernel_rfl, ?_⟩) hHeld ?_ ?_
    rotate_left
    · rintro w' s0_
      go_simp
      with_reducible rfl
    rotate_left
    · simp only [Act.put, List.setIfInBounds_toArray, List.set_cons_zero, List.set_cons_succ, i64_w, i32_w]
      rfl
    refine one_ (i := 3) (N := some 14) #[true, true, true, true] rfl rfl (by kernel_rfl) (by decide) (fun K hK => ?_)
    refine goes_ Try.func58 (by kernel_rfl) rfl #[.slice (some ⟨g, 0, none⟩) 128 128, U e] (by rfl) rfl rfl (by (try simp only [List.map_toArray, List.map_cons, List.map_nil]); first | done | rfl) ?_
    refine (put_calls (noughts 128) 102 0 g 128 128 e w2.drew B12.out (by simp only [laid_size, noughts_size]; omega) (by omega)).mono ?_
    rintro e' w4 ⟨rfl, b4, hb4⟩
    refine ⟨_, rfl, ?_⟩
    have B14 := Aside0.mk b4
    have HB4 := Aside0.mk (HB2.out.drew.trans (hb4.mono (Nat.le_of_lt hz)))
    have B04 := Aside0.mk (show w4.heap[w.heap.size]? = _ from (hb4.block w.heap.size hz).trans B02.out)
    refine hK _ _ ((hb4.cell (p := ⟨w.heap.size, 0, none⟩) hz).trans hHeld) (fun _ => ?_)
    clear hK K hb4 b4
    refine norm_ (a' := ?_) ?_ ?_
    rotate_left
    · show Act.put _ (some 14) _ = _
      simp only [Act.put, List.setIfInBounds_toArray, List.set_cons_zero, List.set_cons_succ, i64_w, i32_w]
      rfl
    refine done_ (by kernel_rfl) ?_
    clear c0 hHeld B02 B12 HB2
    go_upto_region 5 with (fail)
    have c0 := blk_cell B04.out 1
    refine start_ (n := 4) (S := fun w' => w'.cell? ⟨w.heap.size, 1, none⟩ = some (U i)) (ds := []) #[false, false, false, false] (by kernel_rfl) rfl rfl c0 (fun hHeld => ?_)
    refine pure_ (i := 0) (N := some 15) (v := ?_) (a' := ?_) #[true, false, false, false] rfl rfl (by kernel_rfl) (fun _ _ _ h => h) (Or.inl ⟨by kernel_rfl, ?_⟩) ?_ ?_
    rotate_left
    · intro w'
      go_simp
      with_reducible rfl
    rotate_left
    · simp only [Act.put, List.setIfInBounds_toArray, List.set_cons_zero, List.set_cons_succ, i64_w, i32_w]
      rfl
    refine pure_ (i := 1) (N := some 16) (v := ?_) (a' := ?_) #[true, true, false, false] rfl rfl (by kernel_rfl) (fun _ _ _ h => h) (Or.inl ⟨by kernel_rfl, ?_⟩) ?_ ?_
    rotate_left
    · intro w'
      go_simp
      with_reducible rfl
    rotate_left
    · simp only [Act.put, List.setIfInBounds_toArray, List.set_cons_zero, List.set_cons_succ, i64_w, i32_w]
      rfl
    refine take_ (i := 2) (N := some 17) (v := ?_) (a' := ?_) #[true, true, true, false] rfl rfl (by kernel_rfl) (fun _ _ _ h => h) (Or.inl ⟨by kernel_rfl, ?_⟩) hHeld ?_ ?_
    rotate_left
    · rintro w' s0_
      go_simp
      with_reducible rfl
    rotate_left
    · simp only [Act.put, List.setIfInBounds_toArray, List.set_cons_zero, List.set_cons_succ, i64_w, i32_w]
      rfl
    refine one_ (i := 3) (N := some 18) #[true, true, true, true] rfl rfl (by kernel_rfl) (by decide) (fun K hK => ?_)
    refine goes_ Try.func58 (by kernel_rfl) rfl #[.slice (some ⟨g, 4, none⟩) 124 124, U i] (by rfl) rfl rfl (by (try simp only [List.map_toArray, List.map_cons, List.map_nil]); first | done | rfl) ?_
    refine (put_calls (laid (noughts 128) 0 (be (n32 e)) 4) 102 4 g 124 124 i w4.drew B14.out (by simp only [laid_size, noughts_size]; omega) (by omega)).mono ?_
    rintro e' w5 ⟨rfl, b5, hb5⟩
    refine ⟨_, rfl, ?_⟩
    have B15 := Aside0.mk b5
    have HB5 := Aside0.mk (HB4.out.drew.trans (hb5.mono (Nat.le_of_lt hz)))
    have B05 := Aside0.mk (show w5.heap[w.heap.size]? = _ from (hb5.block w.heap.size hz).trans B04.out)
    refine hK _ _ ((hb5.cell (p := ⟨w.heap.size, 1, none⟩) hz).trans hHeld) (fun _ => ?_)
    clear hK K hb5 b5
    refine norm_ (a' := ?_) ?_ ?_
    rotate_left
    · show Act.put _ (some 18) _ = _
      simp only [Act.put, List.setIfInBounds_toArray, List.set_cons_zero, List.set_cons_succ, i64_w, i32_w]
      rfl
    refine done_ (by kernel_rfl) ?_
    clear c0 hHeld B04 B14 HB4
    have hsz : (laid (laid (noughts 128) 0 (be (n32 e)) 4) 4 (be (n32 i)) 4).size = 128 := by rw [laid_size, laid_size, noughts_size]
    have HBR := Aside0.mk (show bare e i b = splice (setB (laid (laid (noughts 128) 0 (be (n32 e)) 4) 4 (be (n32 i)) 4) 9 (UInt8.ofNat b.size)) 12 b from rfl)
    have HSE := Aside0.mk (show sector e i b = laid (bare e i b) 124 (le (n32 (crc ((bare e i b).extract 0 124)))) 4 from rfl)
    generalize laid (laid (noughts 128) 0 (be (n32 e)) 4) 4 (be (n32 i)) 4 = s2 at *
    have c2 := blk_cell B05.out 2
    have c9 := (blk_cell B15.out 9).trans (row_cell _ 9 (by omega))
    have f9 := blk_frozen B15.out 9
    go_upto_region 7 with (fail)
    clear c2 c9 f9
    have B6 := blk_set B15.out 9 (.int .u8 (b.size : Int))
    rw [row_setB _ _ _ (by omega) (by omega), Int.toNat_natCast] at B6
    have hs3 : (setB s2 9 (UInt8.ofNat b.size)).size = 128 := by rw [setB_size, hsz]
    have B06 := Aside0.mk (blk_far B05.out (p := ⟨g, 9, none⟩) (by simp; omega) (.int .u8 (b.size : Int)))
    have HB6 := Aside0.mk (HB5.out.setCell (p := ⟨g, 9, none⟩) (by simp; omega) (.int .u8 (b.size : Int)))
    generalize w5.setCell ⟨g, 9, none⟩ (.int .u8 (b.size : Int)) = w6 at *
    generalize setB s2 9 (UInt8.ofNat b.size) = s3 at *
    have c2 := blk_cell B06.out 2
    have cp := copy_row (w := w6.drew) B6 23 9 3 5 Try.underlying23 rfl 12 116 116 b (by omega) (by omega)
    have g0 := set_row (w := w6.drew) B6 (row (splice s3 12 b))
    have hB7 := below_setRow (HB6.out.drew) (g := g) (by omega) (row (splice s3 12 b))
    have hs4 : (splice s3 12 b).size = 128 := by rw [splice_size _ _ _ (by omega), hs3]
    rw [← HBR.out] at g0 hB7 hs4 cp
    have cv := conv_row g0 23 5 9 Try.underlying23 Try.underlying5 Try.underlying9 0 124 128 (by omega)
    have G0 := Aside0.mk g0; have HB7 := Aside0.mk hB7; have CV := Aside0.mk cv
    clear g0 hB7 cv B6 B05 HB5 B15 hsz
    go_region
    generalize w6.drew.setRow g (row (bare e i b)) = w7 at *
    have cv := CV.out
    clear cp c2 B06 HB6
    rw [Nat.zero_add] at cv
    have hs5 : ((bare e i b).extract 0 124).size < 9223372036854775807 := by
      rw [ByteArray.size_extract]; omega
    go_upto_region 9 with (go_at_call 59; refine (sum_calls _ hs5 _).mono ?_; rintro e' w8 ⟨rfl, hb8⟩)
    have B8 := Aside0.mk (blk_below G0.out hb8)
    have HB8 := Aside0.mk (below_trans HB7.out hb8)
    have hn := n32_lt (crc ((bare e i b).extract 0 124))
    clear CV cv G0 HB7 hb8 HBR hs5
    unfold U
    generalize n32 (crc ((bare e i b).extract 0 124)) = m at *
    generalize bare e i b = sB at *
    go_upto_region 10 with (fail)
    go_loopw [6, 31] (fun _ i wr => ∃ k : Nat, i = .int .i64 k ∧ Aside0 (k ≤ 4) ∧ Aside0 (wr.heap[g]? = some (.cells (row (laid sB 124 (le m) k)) 102 (0, 0))) ∧ Aside0 (Below w.heap.size w wr)) (fun _ i _ => 4 - (intOf i).toNat)
    case atStart => exact ⟨0, rfl, ⟨by omega⟩, B8, HB8⟩
    case round =>
      clear B8 HB8
      obtain ⟨k, rfl, hk, B0, HB⟩ := hrel
      rcases (show k = 0 ∨ k = 1 ∨ k = 2 ∨ k = 3 ∨ k = 4 by have := hk.out; omega) with rfl | rfl | rfl | rfl | rfl
      · have c1 : wr.cell? ⟨g, 124, none⟩ = _ := (blk_cell B0.out (124 + 0)).trans (row_cell _ (124 + 0) (by rw [laid_size]; omega))
        have f1 : wr.frozen? ⟨g, 124, none⟩ = false := blk_frozen B0.out (124 + 0)
        go_wp2
        have B3 := store_laid 0 B0.out (m % 256) (by unfold le; congr 2 <;> omega) (by omega) (by omega)
        have HB3 := HB.out.setCell (p := ⟨g, 124 + 0, none⟩) (Nat.le_of_lt hz) (.int .u8 (m % 256))
        go_roundw
        case rel => exact ⟨1, rfl, ⟨by omega⟩, ⟨B3⟩, ⟨HB3⟩⟩
        case measure => simp [intOf]
      · have c1 : wr.cell? ⟨g, 125, none⟩ = _ := (blk_cell B0.out (124 + 1)).trans (row_cell _ (124 + 1) (by rw [laid_size]; omega))
        have f1 : wr.frozen? ⟨g, 125, none⟩ = false := blk_frozen B0.out (124 + 1)
        go_wp2
        have B3 := store_laid 1 B0.out (m / 256 % 256) (by unfold le; congr 2 <;> omega) (by omega) (by omega)
        have HB3 := HB.out.setCell (p := ⟨g, 124 + 1, none⟩) (Nat.le_of_lt hz) (.int .u8 (m / 256 % 256))
        go_roundw
        case rel => exact ⟨2, rfl, ⟨by omega⟩, ⟨B3⟩, ⟨HB3⟩⟩
        case measure => simp [intOf]
      · have c1 : wr.cell? ⟨g, 126, none⟩ = _ := (blk_cell B0.out (124 + 2)).trans (row_cell _ (124 + 2) (by rw [laid_size]; omega))
        have f1 : wr.frozen? ⟨g, 126, none⟩ = false := blk_frozen B0.out (124 + 2)
        go_wp2
        have B3 := store_laid 2 B0.out (m / 65536 % 256) (by unfold le; congr 2 <;> omega) (by omega) (by omega)
        have HB3 := HB.out.setCell (p := ⟨g, 124 + 2, none⟩) (Nat.le_of_lt hz) (.int .u8 (m / 65536 % 256))
        go_roundw
        case rel => exact ⟨3, rfl, ⟨by omega⟩, ⟨B3⟩, ⟨HB3⟩⟩
        case measure => simp [intOf]
      · have c1 : wr.cell? ⟨g, 127, none⟩ = _ := (blk_cell B0.out (124 + 3)).trans (row_cell _ (124 + 3) (by rw [laid_size]; omega))
        have f1 : wr.frozen? ⟨g, 127, none⟩ = false := blk_frozen B0.out (124 + 3)
        go_wp2
        have B3 := store_laid 3 B0.out (m / 16777216) (by unfold le; congr 2 <;> omega) (by omega) (by omega)
        have HB3 := HB.out.setCell (p := ⟨g, 124 + 3, none⟩) (Nat.le_of_lt hz) (.int .u8 (m / 16777216))
        go_roundw
        case rel => exact ⟨4, rfl, ⟨by omega⟩, ⟨B3⟩, ⟨HB3⟩⟩
        case measure => simp [intOf]
      · clear hk
        have cv := conv_whole B0.out 23 5 9 Try.underlying23 Try.underlying5 Try.underlying9 128 128 (by rw [laid_size]; exact hs4)
        go_wp2
        go_ret2
        rw [HSE.out]
        exact ⟨rfl, HB.out⟩
  · rw [if_neg hb]
    have d0 : decide ((112 : Int) < (b.size : Int)) = true := by rw [decide_eq_true_iff]; omega
    go_enter Try.func53, Try.ntmps53
    go_wp2
    go_ret2
    exact ⟨rfl, (Below.refl w.heap.size w).alloc (Nat.le_refl _) _⟩
end Go.Proofs.Ytbdfdfahpdilpaa.Slab

/-! Layer 1: what a sector's bytes are, as a list. -/
namespace Go.Proofs.Ytbdfdfahpdilpaa.Slab
open Go Go.RowKit Go.Proofs.Ytbdfdfahpdilpaa.Arr Go.Proofs.YtbdfdfahpdilpaaW.PrintWords
set_option linter.unusedVariables false
def beL (a : Int) : List UInt8 := [be a 0, be a 1, be a 2, be a 3]
def leL (a : Int) : List UInt8 := [le a 0, le a 1, le a 2, le a 3]
def crcL (l : List UInt8) : B32 := ~~~ (l.foldl byteS 0xFFFFFFFF#32)
/-- A sector's first 124 bytes; all. -/
def bareL (e i : Int) (b : List UInt8) : List UInt8 := beL e ++ beL i ++ [0, UInt8.ofNat b.length, 0, 0] ++ b ++ List.replicate (112 - b.length) 0
def secL (e i : Int) (b : List UInt8) : List UInt8 := bareL e i b ++ leL (n32 (crcL (bareL e i b)))
theorem bareL_len (e i : Int) (b : List UInt8) (h : b.length ≤ 112) : (bareL e i b).length = 124 := by
  simp [bareL, beL]; omega
theorem secL_len (e i : Int) (b : List UInt8) (h : b.length ≤ 112) : (secL e i b).length = 128 := by
  rw [secL, List.length_append, bareL_len e i b h]; rfl
theorem laid_list (s : ByteArray) (o : Nat) (b : Nat → UInt8) : (laid s o b 4).data.toList = (((s.data.toList.set o (b 0)).set (o + 1) (b 1)).set (o + 2) (b 2)).set (o + 3) (b 3) := by
  simp [laid, setB]
theorem head_list (e i : B32) (n : UInt8) : (setB (laid (laid (noughts 128) 0 (be (n32 e)) 4) 4 (be (n32 i)) 4) 9 n).data.toList = (beL (n32 e) ++ beL (n32 i) ++ [0, n, 0, 0]) ++ List.replicate 116 0 := by
  show ((laid (laid (noughts 128) 0 (be (n32 e)) 4) 4 (be (n32 i)) 4).data.setIfInBounds 9 n).toList = _
  rw [Array.toList_setIfInBounds, laid_list, laid_list]
  rfl
theorem bare_list (e i : B32) (b : ByteArray) (hb : b.size ≤ 112) : (bare e i b).data.toList = bareL (n32 e) (n32 i) b.data.toList ++ [0, 0, 0, 0] := by
  have hl : b.data.toList.length = b.size := by simp
  unfold bare splice
  simp only [head_list]
  have h12 : (beL (n32 e) ++ beL (n32 i) ++ [0, UInt8.ofNat b.size, 0, 0]).length = 12 := rfl
  rw [List.take_append_of_le_length (by rw [h12]; exact Nat.le_refl _), List.take_of_length_le (by rw [h12]; exact Nat.le_refl _), List.drop_append, List.drop_of_length_le (by rw [h12]; omega), h12, List.nil_append, List.drop_replicate]
  unfold bareL
  rw [hl, List.append_assoc (_ ++ b.data.toList)]
  congr 1
  rw [show ([0, 0, 0, 0] : List UInt8) = List.replicate 4 0 from rfl, List.replicate_append_replicate]
  congr 1
  omega
theorem sector_list (e i : B32) (b : ByteArray) (hb : b.size ≤ 112) : (sector e i b).data.toList = secL (n32 e) (n32 i) b.data.toList := by
  have hl : b.data.toList.length ≤ 112 := by simpa using hb
  have hB := bareL_len (n32 e) (n32 i) b.data.toList hl
  have hx : ((bare e i b).extract 0 124).data.toList = bareL (n32 e) (n32 i) b.data.toList := by
    rw [ByteArray.data_extract, Array.toList_extract, bare_list e i b hb]
    simp [List.extract, hB]
  unfold sector secL
  rw [laid_list, bare_list e i b hb]
  have hc : crc ((bare e i b).extract 0 124) = crcL (bareL (n32 e) (n32 i) b.data.toList) := by unfold crc crcL; rw [hx]
  rw [hc]
  generalize bareL (n32 e) (n32 i) b.data.toList = L at *
  rw [List.set_append_right _ _ (by omega), List.set_append_right _ _ (by omega), List.set_append_right _ _ (by omega), List.set_append_right _ _ (by omega), hB]
  rfl
/-! ### Numbers in four bytes -/
def num4 (a b c d : UInt8) : Int := (a.toNat : Int) * 16777216 + b.toNat * 65536 + c.toNat * 256 + d.toNat
theorem num4_be (a : Int) (h : 0 ≤ a ∧ a < 4294967296) : num4 (be a 0) (be a 1) (be a 2) (be a 3) = a := by
  unfold num4 be
  simp only [UInt8.toNat_ofNat']
  simp only [show (24 - 8 * 0) = 24 from rfl, show (24 - 8 * 1) = 16 from rfl, show (24 - 8 * 2) = 8 from rfl, show (24 - 8 * 3) = 0 from rfl]
  have e24 : (2 : Int) ^ 24 = 16777216 := rfl
  have e16 : (2 : Int) ^ 16 = 65536 := rfl
  have e8 : (2 : Int) ^ 8 = 256 := rfl
  have e0 : (2 : Int) ^ 0 = 1 := rfl
  rw [e24, e16, e8, e0]
  omega
theorem num4_range (a b c d : UInt8) : 0 ≤ num4 a b c d ∧ num4 a b c d < 4294967296 := by
  unfold num4
  have := a.toBitVec.isLt; have := b.toBitVec.isLt; have := c.toBitVec.isLt; have := d.toBitVec.isLt
  have ea : a.toNat = a.toBitVec.toNat := rfl
  have eb : b.toNat = b.toBitVec.toNat := rfl
  have ec : c.toNat = c.toBitVec.toNat := rfl
  have ed : d.toNat = d.toBitVec.toNat := rfl
  omega
/-! ### A sector read -/
/-- What a sector's bytes tell: epoch, index, body. -/
def readL (l : List UInt8) : Int × Int × List UInt8 :=
  (num4 (l.getD 0 0) (l.getD 1 0) (l.getD 2 0) (l.getD 3 0), num4 (l.getD 4 0) (l.getD 5 0) (l.getD 6 0) (l.getD 7 0), (l.drop 12).take (l.getD 9 0).toNat)
theorem read_sec (e i : Int) (b : List UInt8) (he : 0 ≤ e ∧ e < 4294967296) (hi : 0 ≤ i ∧ i < 4294967296) (hb : b.length ≤ 112) : readL (secL e i b) = (e, i, b) := by
  have h9 : (UInt8.ofNat b.length).toNat = b.length := by rw [UInt8.toNat_ofNat']; omega
  have e0 : num4 (be e 0) (be e 1) (be e 2) (be e 3) = e := num4_be e he
  have e1 : num4 (be i 0) (be i 1) (be i 2) (be i 3) = i := num4_be i hi
  unfold readL
  have d : (secL e i b).drop 12 = b ++ (List.replicate (112 - b.length) 0 ++ leL (n32 (crcL (bareL e i b)))) := by
    unfold secL
    generalize leL (n32 (crcL (bareL e i b))) = z
    unfold bareL
    rw [List.append_assoc, List.append_assoc]
    rfl
  have g : ∀ j, j < 12 → (secL e i b).getD j 0 = (beL e ++ beL i ++ [0, UInt8.ofNat b.length, 0, 0]).getD j 0 := by
    intro j hj
    unfold secL
    generalize leL (n32 (crcL (bareL e i b))) = z
    unfold bareL
    rw [List.getD_eq_getElem?_getD, List.getD_eq_getElem?_getD, List.append_assoc, List.append_assoc, List.getElem?_append_left]
    exact hj
  rw [d, g 0 (by omega), g 1 (by omega), g 2 (by omega), g 3 (by omega), g 4 (by omega), g 5 (by omega), g 6 (by omega), g 7 (by omega), g 9 (by omega)]
  show (num4 (be e 0) (be e 1) (be e 2) (be e 3), num4 (be i 0) (be i 1) (be i 2) (be i 3), List.take (UInt8.ofNat b.length).toNat _) = _
  rw [e0, e1, h9, List.take_append_of_le_length (Nat.le_refl _), List.take_length]
theorem sec_inj (e i e' i' : Int) (b b' : List UInt8) (he : 0 ≤ e ∧ e < 4294967296) (hi : 0 ≤ i ∧ i < 4294967296) (hb : b.length ≤ 112) (he' : 0 ≤ e' ∧ e' < 4294967296) (hi' : 0 ≤ i' ∧ i' < 4294967296) (hb' : b'.length ≤ 112) (h : secL e i b = secL e' i' b') : e = e' ∧ i = i' ∧ b = b' := by
  have h1 := read_sec e i b he hi hb
  rw [h, read_sec e' i' b' he' hi' hb'] at h1
  simp only [Prod.mk.injEq] at h1
  exact ⟨h1.1.symm, h1.2.1.symm, h1.2.2.symm⟩
end Go.Proofs.Ytbdfdfahpdilpaa.Slab
