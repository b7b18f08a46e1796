import Derived.Test.YtbdfdfahpdilpaaX12x2
import Derived.Test.YtbdfdfahpdilpaaX12x3
import Derived.Test.YtbdfdfahpdilpaaZC
/-! Layer 1 in this seat: what Unpack computes. -/
namespace Go.Proofs.Ytbdfdfahpdilpaa.X12
open Go Go.RowKit Go.Proofs.YtbdfdfahpdilpaaW.PrintWords Go.Proofs.Ytbdfdfahpdilpaa.Slab
set_option linter.unusedVariables false
/-- A text's bytes as a list. -/
def bl (s : ByteArray) : List UInt8 := s.data.toList
theorem bl_len (s : ByteArray) : (bl s).length = s.size := by simp [bl]
theorem bl_ext {s t : ByteArray} (h : bl s = bl t) : s = t := ByteArray.ext (Array.toList_inj.1 h)
theorem bl_cut (s : ByteArray) (a b : Nat) : bl (s.extract a b) = ((bl s).drop a).take (b - a) := by simp [bl]
theorem bl_cat (s t : ByteArray) : bl (s ++ t) = bl s ++ bl t := by unfold bl; rw [ByteArray.data_append, Array.toList_append]
theorem bt_bl (s : ByteArray) (j : Nat) (h : j < s.size) : bt s (j : Int) = (((bl s).getD j 0).toNat : Int) := by
  have h1 : j < (bl s).length := by rw [bl_len]; exact h
  unfold bt
  rw [dif_pos (by simpa using h), List.getD_eq_getElem?_getD, List.getElem?_eq_getElem h1]
  simp [bl, ByteArray.getElem_eq_getElem_data]
theorem w64 {x : Int} (h0 : -9223372036854775808 ≤ x) (h1 : x ≤ 9223372036854775807) : wrap64 x = x := by unfold wrap64; omega
theorem or64 (x y : Int) (h0 : 0 ≤ x) (h1 : x < 16777216) (h2 : 0 ≤ y) (h3 : y < 256) : bits .or .i64 (x * 256) y = x * 256 + y :=
  bits_join .i64 40 (by decide) (fun n a b => by rw [IntKind.wrap_i64]; omega) 8 (x * 256) y (by omega) (by omega) (by omega) h2 (by omega) (by omega)
theorem or32 (x y : Int) (h0 : 0 ≤ x) (h1 : x < 16777216) (h2 : 0 ≤ y) (h3 : y < 256) : bits .or .u32 (x * 256 % 4294967296) (y % 4294967296) = x * 256 + y := by
  rw [show x * 256 % 4294967296 = x * 256 by omega, show y % 4294967296 = y by omega]
  exact bits_join .u32 32 (by decide) (fun n a b => by rw [IntKind.wrap_u32]; omega) 8 (x * 256) y (by omega) (by omega) (by omega) h2 (by omega) (by omega)
/-- Four bytes as a number, the highest first. -/
def numB (s : ByteArray) : Int := ((bt s 0 * 256 + bt s 1) * 256 + bt s 2) * 256 + bt s 3
theorem numB_range (s : ByteArray) : 0 ≤ numB s ∧ numB s < 4294967296 := by
  have a := bt_range s 0; have b := bt_range s 1; have c := bt_range s 2; have d := bt_range s 3
  unfold numB; omega
theorem get_eq (k : Nat) (s : ByteArray) (h : 4 ≤ s.size) : slab_get.f (k + 5) s = some (numB s) := by
  unfold slab_get.f
  have a := bt_range s 0; have b := bt_range s 1; have c := bt_range s 2; have d := bt_range s 3
  have e0 : bits .or .u32 (0 * 256 % 4294967296) (bt s 0 % 4294967296) = bt s 0 := by
    rw [or32 0 _ (by omega) (by omega) (by omega) (by omega)]; omega
  have e1 := or32 (bt s 0) (bt s 1) (by omega) (by omega) (by omega) (by omega)
  have e2 := or32 (bt s 0 * 256 + bt s 1) (bt s 2) (by omega) (by omega) (by omega) (by omega)
  have e3 := or32 ((bt s 0 * 256 + bt s 1) * 256 + bt s 2) (bt s 3) (by omega) (by omega) (by omega) (by omega)
  have i1 : wrap64 (0 + 1) = 1 := by unfold wrap64; omega
  have i2 : wrap64 (1 + 1) = 2 := by unfold wrap64; omega
  have i3 : wrap64 (2 + 1) = 3 := by unfold wrap64; omega
  have i4 : wrap64 (3 + 1) = 4 := by unfold wrap64; omega
  rw [slab_get.l0, if_pos (by omega), if_pos (by omega), if_pos (by omega), i1, e0]
  rw [slab_get.l0, if_pos (by omega), if_pos (by omega), if_pos (by omega), i2, e1]
  rw [slab_get.l0, if_pos (by omega), if_pos (by omega), if_pos (by omega), i3, e2]
  rw [slab_get.l0, if_pos (by omega), if_pos (by omega), if_pos (by omega), i4, e3]
  rw [slab_get.l0, if_neg (by omega)]
  rfl
theorem numB_bl (s : ByteArray) (h : 4 ≤ s.size) : numB s = num4 ((bl s).getD 0 0) ((bl s).getD 1 0) ((bl s).getD 2 0) ((bl s).getD 3 0) := by
  have a := bt_bl s 0 (by omega); have b := bt_bl s 1 (by omega); have c := bt_bl s 2 (by omega); have d := bt_bl s 3 (by omega)
  unfold numB num4
  rw [show bt s 0 = _ from a, show bt s 1 = _ from b, show bt s 2 = _ from c, show bt s 3 = _ from d]
  omega
theorem of_n32 (a : Int) (h : 0 ≤ a ∧ a < 4294967296) : n32 (BitVec.ofInt 32 a) = a := by
  unfold n32
  rw [BitVec.toNat_ofInt]
  omega
/-- Pack, with its numbers as they are. -/
def packI (e i : Int) (b : ByteArray) : ByteArray × Int := packF (BitVec.ofInt 32 e) (BitVec.ofInt 32 i) b
theorem pack_eq (e i : Int) (b : ByteArray) (he : 0 ≤ e ∧ e < 4294967296) (hi : 0 ≤ i ∧ i < 4294967296) : slab_Pack.f e i b = some (packI e i b) := by
  unfold slab_Pack.f packI
  rw [if_pos ⟨he, hi⟩]
theorem packI_bl (e i : Int) (b : ByteArray) (he : 0 ≤ e ∧ e < 4294967296) (hi : 0 ≤ i ∧ i < 4294967296) (hb : b.size ≤ 112) : bl (packI e i b).1 = secL e i (bl b) ∧ (packI e i b).2 = 0 := by
  unfold packI packF
  rw [if_pos hb]
  refine ⟨?_, rfl⟩
  have := sector_list (BitVec.ofInt 32 e) (BitVec.ofInt 32 i) b hb
  rw [of_n32 e he, of_n32 i hi] at this
  exact this
theorem packI_no (e i : Int) (b : ByteArray) (hb : ¬ b.size ≤ 112) : packI e i b = (⟨#[]⟩, 1) := by
  unfold packI packF
  rw [if_neg hb]
/-- How long a sector's body is. -/
def lenS (s : ByteArray) : Int := bt s 8 * 256 + bt s 9
def cutB (s : ByteArray) : ByteArray := s.extract 12 (12 + (lenS s).toNat)
def nE (s : ByteArray) : Int := numB s
def nI (s : ByteArray) : Int := numB (s.extract 4 s.size)
/-- It is the sector of what it tells. -/
def isSec (s : ByteArray) : Prop := s.size = 128 ∧ lenS s ≤ 112 ∧ secL (nE s) (nI s) (bl (cutB s)) = bl s
instance (s : ByteArray) : Decidable (isSec s) := by unfold isSec; infer_instance
def unpackF (s : ByteArray) : Int × Int × ByteArray × Int := if isSec s then (nE s, nI s, cutB s, 0) else (0, 0, ⟨#[]⟩, 8)
theorem lenS_range (s : ByteArray) : 0 ≤ lenS s ∧ lenS s ≤ 65535 := by
  have a := bt_range s 8; have b := bt_range s 9
  unfold lenS; omega
theorem cutB_size (s : ByteArray) (h : s.size = 128) (hl : lenS s ≤ 112) : ((cutB s).size : Int) = lenS s := by
  have := lenS_range s
  unfold cutB
  rw [ByteArray.size_extract]; omega
theorem loop_bl (s : ByteArray) : ∀ (d i : Nat) (r : List UInt8), i + d = s.size → ByteArray.toList.loop s i r = r.reverse ++ (bl s).drop i := by
  intro d
  induction d with
  | zero =>
    intro i r h
    rw [ByteArray.toList.loop, if_neg (by omega), List.drop_of_length_le (by rw [bl_len]; omega), List.append_nil]
  | succ d ih =>
    intro i r h
    have hi : i < s.size := by omega
    have hl : i < (bl s).length := by rw [bl_len]; exact hi
    rw [ByteArray.toList.loop, if_pos hi, ih (i + 1) _ (by omega), List.drop_eq_getElem_cons hl, List.reverse_cons, List.append_assoc]
    have e : s.get! i = (bl s)[i] := by
      show s.data[i]! = s.data.toList[i]
      have hd : i < s.data.size := hi
      rw [getElem!_pos s.data i hd]
      exact (Array.getElem_toList hd).symm
    rw [e]
    rfl
theorem toList_bl (s : ByteArray) : s.toList = bl s := by
  show ByteArray.toList.loop s 0 [] = _
  rw [loop_bl s s.size 0 [] (by omega)]
  rfl
theorem unpack_eq (k : Nat) (s : ByteArray) : slab_Unpack.f (k + 5) s = some (unpackF s) := by
  unfold slab_Unpack.f unpackF
  by_cases hs : s.size = 128
  · have a := bt_range s 8; have b := bt_range s 9
    have hL := lenS_range s
    have hl : bits .or .i64 (wrap64 ((wrap64 (bt s 8)) * 256)) (wrap64 (bt s 9)) = lenS s := by
      rw [w64 (x := bt s 8) (by omega) (by omega), w64 (x := bt s 9) (by omega) (by omega), w64 (by omega) (by omega), or64 _ _ (by omega) (by omega) (by omega) (by omega)]
      rfl
    rw [if_pos (by omega), if_pos (by omega), if_pos (by omega), hl]
    by_cases h1 : lenS s > 112
    · rw [if_pos h1, if_neg (fun q => by have := q.2.1; omega)]
    · have hw : wrap64 (12 + lenS s) = 12 + lenS s := w64 (by omega) (by omega)
      have h4 : 4 ≤ (s.extract 4 s.size).size := by rw [ByteArray.size_extract]; omega
      have e1 : (12 + lenS s).toNat = 12 + (lenS s).toNat := by omega
      rw [if_neg h1, get_eq k s (by omega)]
      simp only [Option.bind_some]
      rw [if_pos (by omega), get_eq k _ h4]
      simp only [Option.bind_some]
      rw [hw, if_pos (by omega), if_pos (by omega), e1, pack_eq _ _ _ (numB_range _) (numB_range _)]
      simp only [Option.bind_some]
      have hcz := cutB_size s hs (by omega)
      have hP := packI_bl (numB s) (numB (s.extract 4 s.size)) (cutB s) (numB_range _) (numB_range _) (by omega)
      rw [toList_bl, toList_bl]
      show (if bl (packI (numB s) (numB (s.extract 4 s.size)) (cutB s)).1 = bl s then _ else _) = _
      rw [hP.1]
      by_cases q : secL (numB s) (numB (s.extract 4 s.size)) (bl (cutB s)) = bl s
      · rw [if_pos q, if_pos ⟨hs, by omega, q⟩]; rfl
      · rw [if_neg q, if_neg (fun z => q z.2.2)]
  · rw [if_neg (by omega), if_neg (fun q => hs q.1)]
theorem getD_cut (l : List UInt8) (a n j : Nat) (h : j < n) : ((l.drop a).take n).getD j 0 = l.getD (a + j) 0 := by
  rw [List.getD_eq_getElem?_getD, List.getD_eq_getElem?_getD, List.getElem?_take_of_lt h, List.getElem?_drop]
theorem numB_cut (s : ByteArray) (a b : Nat) (h : a + 4 ≤ b) (hb : b ≤ s.size) : numB (s.extract a b) = num4 ((bl s).getD a 0) ((bl s).getD (a + 1) 0) ((bl s).getD (a + 2) 0) ((bl s).getD (a + 3) 0) := by
  rw [numB_bl _ (by rw [ByteArray.size_extract]; omega), bl_cut, getD_cut _ _ _ _ (by omega), getD_cut _ _ _ _ (by omega), getD_cut _ _ _ _ (by omega), getD_cut _ _ _ _ (by omega)]
  rfl
def refunpackF (s : ByteArray) : Int × Int × ByteArray × Bool := if isSec s then (nE s, nI s, cutB s, true) else (0, 0, ⟨#[]⟩, false)
theorem unpack_sec (e i : Int) (b s : ByteArray) (he : 0 ≤ e ∧ e < 4294967296) (hi : 0 ≤ i ∧ i < 4294967296) (hb : b.size ≤ 112) (h : bl s = secL e i (bl b)) : unpackF s = (e, i, b, 0) := by
  have hbl : (bl b).length ≤ 112 := by rw [bl_len]; exact hb
  have hs : s.size = 128 := by rw [← bl_len, h, secL_len e i _ hbl]
  have r := read_sec e i (bl b) he hi hbl
  rw [← h] at r
  unfold readL at r
  simp only [Prod.mk.injEq] at r
  have g8 : (bl s).getD 8 0 = 0 := by
    rw [h]; rfl
  have g9 : (bl s).getD 9 0 = UInt8.ofNat (bl b).length := by
    rw [h]; rfl
  have t8 := bt_bl s 8 (by omega)
  have t9 := bt_bl s 9 (by omega)
  rw [g8] at t8
  rw [g9, bl_len, UInt8.toNat_ofNat'] at t9
  have hL : lenS s = b.size := by
    unfold lenS
    rw [show bt s 8 = _ from t8, show bt s 9 = _ from t9]
    simp; omega
  have eE : nE s = e := by unfold nE; rw [numB_bl s (by omega)]; exact r.1
  have eI : nI s = i := by unfold nI; rw [numB_cut s 4 s.size (by omega) (by omega)]; exact r.2.1
  have eB : cutB s = b := by
    apply bl_ext
    unfold cutB
    rw [bl_cut, hL]
    have q := r.2.2
    rw [g9, bl_len, UInt8.toNat_ofNat', show b.size % 2 ^ 8 = b.size by omega] at q
    rw [show 12 + (b.size : Int).toNat - 12 = b.size by omega]
    exact q
  have hS : isSec s := ⟨hs, by omega, by rw [eE, eI, eB, h]⟩
  unfold unpackF
  rw [if_pos hS, eE, eI, eB]
theorem unpack_calls (s : ByteArray) (w : World) : Calls Try.prog 57 #[.string s] w fun e w' => e = .returned (.tuple #[.agg #[.int .u32 (unpackF s).1, .int .u32 (unpackF s).2.1, .string (unpackF s).2.2.1], .int .i64 (unpackF s).2.2.2]) ∧ Below w.heap.size w w' :=
  slab_Unpack.calls 5 s _ _ _ _ w (unpack_eq 0 s)
theorem pack_calls (e i : Int) (b : ByteArray) (he : 0 ≤ e ∧ e < 4294967296) (hi : 0 ≤ i ∧ i < 4294967296) (w : World) : Calls Try.prog 53 #[.agg #[.int .u32 e, .int .u32 i, .string b]] w fun f w' => f = .returned (.tuple #[.string (packI e i b).1, .int .i64 (packI e i b).2]) ∧ Below w.heap.size w w' :=
  slab_Pack.calls e i b _ _ w (pack_eq e i b he hi)
/-- What was packed is told again. -/
theorem unpack_pack (e i : Int) (b : ByteArray) (he : 0 ≤ e ∧ e < 4294967296) (hi : 0 ≤ i ∧ i < 4294967296) (hb : b.size ≤ 112) : unpackF (packI e i b).1 = (e, i, b, 0) := unpack_sec e i b _ he hi hb (packI_bl e i b he hi hb).1
end Go.Proofs.Ytbdfdfahpdilpaa.X12
