import Derived.Test.YtbdfdfahpdilpaaProg
import Derived.Test.YtbdfdfahpdilpaaArr
import Derived.Test.YtbdfdfahpdilpaaWWords
import Derived.Test.YtbdfdfahpdilpaaWMore
import Derived.Deep.QuietTactic
import Derived.Deep.RegionLaw
import Derived.BigQuiet
import Derived.RegionTactic
import Derived.Outline
import Derived.Lib.Hide
import Derived.Deep.CutBlock
import Derived.Deep.DeepCutAuto
/-! Layer 1: the sum, bit by bit and by half bytes; a number in four bytes; a sector. -/
namespace Go.Proofs.Ytbdfdfahpdilpaa.Slab
open Go Go.RowKit Go.Proofs.Ytbdfdfahpdilpaa.Arr Go.Proofs.YtbdfdfahpdilpaaW.PrintWords Go.Proofs.YtbdfdfahpdilpaaW.PrintMore
set_option linter.unusedVariables false
def Post (v : Value) (w : World) (e : Ending) (w' : World) : Prop := e = .returned v ∧ Below w.heap.size w w'
/-! ### 1. 32 bits as a number -/
abbrev B32 := BitVec 32
def poly : B32 := 0xEDB88320#32
def n32 (c : B32) : Int := (c.toNat : Int)
def U (c : B32) : Value := .int .u32 (n32 c)
/-- One bit of the sum. -/
def step (c : B32) : B32 := (c >>> 1) ^^^ (poly &&& -(c &&& 1#32))
def steps : Nat → B32 → B32
  | 0, c => c
  | k + 1, c => step (steps k c)
/-- The sum of a half byte. -/
def nib (c : B32) : B32 := steps 4 c
def half (c : B32) : B32 := (c >>> 4) ^^^ nib (c &&& 15#32)
def byteS (c : B32) (b : UInt8) : B32 := half (half (c ^^^ b.toBitVec.zeroExtend 32))
def crc (s : ByteArray) : B32 := ~~~ (s.data.toList.foldl byteS 0xFFFFFFFF#32)
theorem n32_lt (c : B32) : 0 ≤ n32 c ∧ n32 c < 4294967296 := by
  have := c.isLt
  unfold n32
  omega
theorem of32 (c : B32) : BitVec.ofInt 32 (n32 c) = c := by unfold n32; simp
theorem w32 (c : B32) : IntKind.u32.wrap (n32 c) = n32 c := by have := n32_lt c; rw [IntKind.wrap_u32]; omega
theorem bits_xor (a b : B32) : bits .xor .u32 (n32 a) (n32 b) = n32 (a ^^^ b) := by
  show IntKind.u32.wrap (((BitVec.ofInt 32 (n32 a)) ^^^ (BitVec.ofInt 32 (n32 b))).toNat : Int) = _
  rw [of32, of32]; exact w32 _
theorem bits_and (a b : B32) : bits .and .u32 (n32 a) (n32 b) = n32 (a &&& b) := by
  show IntKind.u32.wrap (((BitVec.ofInt 32 (n32 a)) &&& (BitVec.ofInt 32 (n32 b))).toNat : Int) = _
  rw [of32, of32]; exact w32 _
theorem bits_and1 (a : B32) : bits .and .u32 (n32 a) 1 = n32 (a &&& 1#32) := bits_and a 1#32
theorem bits_and15 (a : B32) : bits .and .u32 (n32 a) 15 = n32 (a &&& 15#32) := bits_and a 15#32
theorem bits_andp (a : B32) : bits .and .u32 3988292384 (n32 a) = n32 (poly &&& a) := bits_and poly a
theorem bits_xorf (a : B32) : bits .xor .u32 4294967295 (n32 a) = n32 (~~~ a) := by
  have := bits_xor 0xFFFFFFFF#32 a
  rw [show (0xFFFFFFFF#32 ^^^ a) = ~~~ a from by rw [← BitVec.allOnes_xor]; rfl] at this
  exact this
theorem neg32 (a : B32) : IntKind.u32.wrap (0 - n32 a) = n32 (-a) := by
  rw [IntKind.wrap_u32]; unfold n32
  have := a.isLt
  rw [BitVec.toNat_neg]; omega
theorem neg32' (a : B32) : -n32 a % 4294967296 = n32 (-a) := by
  have := neg32 a
  rw [IntKind.wrap_u32] at this
  rw [← this]; congr 1; omega
theorem shr32_1 (a : B32) : n32 a / (2 : Int) = n32 (a >>> 1) := by unfold n32; simp [Nat.shiftRight_eq_div_pow]
theorem shr32_4 (a : B32) : n32 a / (16 : Int) = n32 (a >>> 4) := by unfold n32; simp [Nat.shiftRight_eq_div_pow]
/-- What lies in a table of half bytes' sums, the first k laid. -/
def tab (k : Nat) : Array Value := ((List.range 16).map fun i => if i < k then U (nib (BitVec.ofNat 32 i)) else .int .u32 0).toArray
set_option maxRecDepth 100000 in
theorem z45 (w : World) : (zeroValue 114).run Try.prog w = .ok (.agg (tab 0)) w := by kernel_rfl
def tabV : Value := .agg #[.int .u32 0, .int .u32 498536548, .int .u32 997073096, .int .u32 651767980, .int .u32 1994146192, .int .u32 1802195444, .int .u32 1303535960, .int .u32 1342533948, .int .u32 3988292384, .int .u32 4027552580, .int .u32 3604390888, .int .u32 3412177804, .int .u32 2607071920, .int .u32 2262029012, .int .u32 2685067896, .int .u32 3183342108]
theorem tab16 : tab 16 = #[.int .u32 0, .int .u32 498536548, .int .u32 997073096, .int .u32 651767980, .int .u32 1994146192, .int .u32 1802195444, .int .u32 1303535960, .int .u32 1342533948, .int .u32 3988292384, .int .u32 4027552580, .int .u32 3604390888, .int .u32 3412177804, .int .u32 2607071920, .int .u32 2262029012, .int .u32 2685067896, .int .u32 3183342108] := by
  rfl
theorem tab_set (k : Nat) (hk : k < 16) : (tab k).setIfInBounds k (U (nib (BitVec.ofNat 32 k))) = tab (k + 1) := by
  unfold tab
  rw [List.setIfInBounds_toArray]
  congr 1
  apply List.ext_getElem (by simp)
  intro n h1 h2
  rw [List.getElem_set]
  simp only [List.getElem_map, List.getElem_range]
  by_cases e : k = n
  · subst e; simp
  · rw [if_neg e]
    by_cases f : n < k
    · rw [if_pos f, if_pos (by omega)]
    · rw [if_neg f, if_neg (by omega)]
theorem tab_cell (k i : Nat) (hi : i < 16) : (tab k)[i]? = some (if i < k then U (nib (BitVec.ofNat 32 i)) else .int .u32 0) := by
  unfold tab
  simp [hi]
attribute [local go_sem] bits_xor bits_and bits_and1 bits_andp bits_and15 bits_xorf neg32 shr32_1 shr32_4
section
variable {P : Program}
theorem results_c {fn : Func} {p : Tmp} {ty : TypeId} (h : fn.results = #[.cell p ty]) (tmps : Array Value) (w : World) (g : Nat) (t : TypeId) (cs : Array Value) (fr : Nat × Nat) (d : TypeDesc)
    (hp : tmps.getD p undef = .pointer (some ⟨g, 0, none⟩)) (hg : w.heap[g]? = some (.cells cs t fr))
    (hu : P.underlying ty = some d) (hd : (match d with | .struct _ | .array _ _ => true | _ => false) = true) (hi : (P.info? ty).map (·.size) = some cs.size) :
    (results fn tmps).run P w = .ok (.agg cs) w := by
  have hp' : tmps[p]?.getD undef = .pointer (some ⟨g, 0, none⟩) := by simpa using hp
  simp [results, h, hp', asAddr, run_loadVar_row w g t ty cs fr d hg hu hd hi]
end
set_option maxRecDepth 20000 in
theorem table_calls (w : World) : Calls Try.prog 63 #[] w (Post tabV w) := by
  have h45 := z45
  go_enter Try.func63, Try.ntmps63
  go_upto_region 1 with (fail)
  have b0 := heap_alloc_new w (Obj.cells (tab 0) 114)
  have hB := (Below.refl w.heap.size w).alloc (Nat.le_refl _) (Obj.cells (tab 0) 114)
  have B0 := Aside0.mk b0; have HB := Aside0.mk hB; clear b0 hB h45
  generalize w.alloc (Obj.cells (tab 0) 114) = W at *
  go_upto_region 2 with (fail)
  go_loopw [1, 2, 3] (fun v1 v2 i wr => ∃ k : Nat, i = .int .i64 k ∧ Aside0 (k ≤ 16) ∧ Aside0 (wr.heap[w.heap.size]? = some (.cells (tab k) 114 (0, 0))) ∧ Aside0 (Below w.heap.size w wr)) (fun _ _ i _ => 16 - (intOf i).toNat)
  case atStart => exact ⟨0, rfl, ⟨by omega⟩, B0, HB⟩
  case round =>
    clear B0 HB
    obtain ⟨k, rfl, K, B0, HB⟩ := hrel
    by_cases hlt : (k : Int) < 16
    · have hk : k < 16 := by omega
      have hge : (0 : Int) ≤ (k : Int) := by omega
      have hw : IntKind.u32.wrap (k : Int) = n32 (BitVec.ofNat 32 k) := by
        rw [IntKind.wrap_u32]; unfold n32; rw [BitVec.toNat_ofNat]; omega
      go_upto_region 6 with (fail)
      clear hw
      go_loopw [2, 8] (fun v i w1 => ∃ m : Nat, i = .int .i64 m ∧ v = .int .u32 (n32 (steps m (BitVec.ofNat 32 k))) ∧ w1 = wr ∧ Aside0 (m ≤ 4)) (fun _ i _ => 4 - (intOf i).toNat)
      case atStart => exact ⟨0, rfl, rfl, rfl, ⟨by omega⟩⟩
      case round =>
        obtain ⟨m, rfl, rfl, rfl, M⟩ := hrel
        by_cases hm : (m : Int) < 4
        · have hm0 : (0 : Int) ≤ (m : Int) := by omega
          go_wp2
          go_roundw
          case rel =>
            refine ⟨m + 1, by go_num, ?_, by trivial, ⟨by omega⟩⟩
            rw [neg32', bits_andp, bits_xor]
            rfl
          case measure => simp [intOf]; omega
        · obtain rfl : m = 4 := by have := M.out; omega
          have c1 := (blk_cell B0.out k).trans (tab_cell k k hk)
          rw [if_neg (Nat.lt_irrefl k)] at c1
          have f1 := blk_frozen B0.out k
          have i0 : (0 : Int) ≤ (k : Int) := by omega
          clear M hm
          go_wp2
          have B1 : (wr.setCell ⟨w.heap.size, k, none⟩ (.int .u32 (n32 (steps 4 (BitVec.ofNat 32 k))))).heap[w.heap.size]? = some (.cells (tab (k + 1)) 114 (0, 0)) := by
            have h2 := blk_set B0.out k (U (nib (BitVec.ofNat 32 k)))
            rw [tab_set k hk] at h2
            exact h2
          have HB1 := HB.out.setCell (p := ⟨w.heap.size, k, none⟩) (Nat.le_refl _) (.int .u32 (n32 (steps 4 (BitVec.ofNat 32 k))))
          go_roundw
          case rel => exact ⟨k + 1, by go_num, ⟨by omega⟩, ⟨B1⟩, ⟨HB1⟩⟩
          case measure => simp [intOf]; omega
    · obtain rfl : k = 16 := by have := K.out; omega
      clear K hlt
      have b := B0.out
      rw [tab16] at b
      have c0 := blk_cell b 0; have c1 := blk_cell b 1; have c2 := blk_cell b 2; have c3 := blk_cell b 3; have c4 := blk_cell b 4; have c5 := blk_cell b 5; have c6 := blk_cell b 6; have c7 := blk_cell b 7; have c8 := blk_cell b 8; have c9 := blk_cell b 9; have c10 := blk_cell b 10; have c11 := blk_cell b 11; have c12 := blk_cell b 12; have c13 := blk_cell b 13; have c14 := blk_cell b 14; have c15 := blk_cell b 15
      have f0 := blk_frozen b 0; have f1 := blk_frozen b 1; have f2 := blk_frozen b 2; have f3 := blk_frozen b 3; have f4 := blk_frozen b 4; have f5 := blk_frozen b 5; have f6 := blk_frozen b 6; have f7 := blk_frozen b 7; have f8 := blk_frozen b 8; have f9 := blk_frozen b 9; have f10 := blk_frozen b 10; have f11 := blk_frozen b 11; have f12 := blk_frozen b 12; have f13 := blk_frozen b 13; have f14 := blk_frozen b 14; have f15 := blk_frozen b 15
      clear b
      go_wp2
      have b := B0.out
      rw [tab16] at b
      have b2 := (blk_set (blk_set (blk_set (blk_set (blk_set (blk_set (blk_set (blk_set (blk_set (blk_set (blk_set (blk_set (blk_set (blk_set (blk_set (blk_set b 0 (.int .u32 0)) 1 (.int .u32 498536548)) 2 (.int .u32 997073096)) 3 (.int .u32 651767980)) 4 (.int .u32 1994146192)) 5 (.int .u32 1802195444)) 6 (.int .u32 1303535960)) 7 (.int .u32 1342533948)) 8 (.int .u32 3988292384)) 9 (.int .u32 4027552580)) 10 (.int .u32 3604390888)) 11 (.int .u32 3412177804)) 12 (.int .u32 2607071920)) 13 (.int .u32 2262029012)) 14 (.int .u32 2685067896)) 15 (.int .u32 3183342108))
      have hB2 := ((((((((((((((((HB.out.setCell (p := ⟨w.heap.size, 0, none⟩) (Nat.le_refl _) (.int .u32 0)).setCell (p := ⟨w.heap.size, 1, none⟩) (Nat.le_refl _) (.int .u32 498536548)).setCell (p := ⟨w.heap.size, 2, none⟩) (Nat.le_refl _) (.int .u32 997073096)).setCell (p := ⟨w.heap.size, 3, none⟩) (Nat.le_refl _) (.int .u32 651767980)).setCell (p := ⟨w.heap.size, 4, none⟩) (Nat.le_refl _) (.int .u32 1994146192)).setCell (p := ⟨w.heap.size, 5, none⟩) (Nat.le_refl _) (.int .u32 1802195444)).setCell (p := ⟨w.heap.size, 6, none⟩) (Nat.le_refl _) (.int .u32 1303535960)).setCell (p := ⟨w.heap.size, 7, none⟩) (Nat.le_refl _) (.int .u32 1342533948)).setCell (p := ⟨w.heap.size, 8, none⟩) (Nat.le_refl _) (.int .u32 3988292384)).setCell (p := ⟨w.heap.size, 9, none⟩) (Nat.le_refl _) (.int .u32 4027552580)).setCell (p := ⟨w.heap.size, 10, none⟩) (Nat.le_refl _) (.int .u32 3604390888)).setCell (p := ⟨w.heap.size, 11, none⟩) (Nat.le_refl _) (.int .u32 3412177804)).setCell (p := ⟨w.heap.size, 12, none⟩) (Nat.le_refl _) (.int .u32 2607071920)).setCell (p := ⟨w.heap.size, 13, none⟩) (Nat.le_refl _) (.int .u32 2262029012)).setCell (p := ⟨w.heap.size, 14, none⟩) (Nat.le_refl _) (.int .u32 2685067896)).setCell (p := ⟨w.heap.size, 15, none⟩) (Nat.le_refl _) (.int .u32 3183342108))
      refine bodyPost_ret (results_c rfl _ _ _ _ _ _ _ rfl b2 Try.underlying114 rfl rfl) rfl ⟨rfl, hB2⟩
end Go.Proofs.Ytbdfdfahpdilpaa.Slab
