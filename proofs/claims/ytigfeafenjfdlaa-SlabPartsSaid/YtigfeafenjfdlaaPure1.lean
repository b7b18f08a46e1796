import Derived.Test.YtigfeafenjfdlaaX1x
import Derived.Test.YtigfeafenjfdlaaSecPure
/-! Layer 1: what the printed functions compute, in closed form. -/
namespace Go.Proofs.Ytigfeafenjfdlaa.X1
open Go Go.RowKit Go.Proofs.YtigfeafenjfdlaaW.PrintWords Go.Proofs.Ytigfeafenjfdlaa.Slab
set_option linter.unusedVariables false
theorem awake_eq (k : Nat) : careenlaw01_awake.f k = some true := rfl
/-- A text's bytes as a list. -/
def bl (s : ByteArray) : List UInt8 := s.data.toList
theorem bl_len (s : ByteArray) : (bl s).length = s.size := by simp [bl]
theorem bl_ext {s t : ByteArray} (h : bl s = bl t) : s = t := ByteArray.ext (Array.toList_inj.1 h)
theorem bl_cut (s : ByteArray) (a b : Nat) : bl (s.extract a b) = ((bl s).drop a).take (b - a) := by simp [bl]
theorem bl_cat (s t : ByteArray) : bl (s ++ t) = bl s ++ bl t := by unfold bl; rw [ByteArray.data_append, Array.toList_append]
theorem bt_bl (s : ByteArray) (j : Nat) (h : j < s.size) : bt s (j : Int) = (((bl s).getD j 0).toNat : Int) := by
  have h1 : j < (bl s).length := by rw [bl_len]; exact h
  unfold bt
  rw [dif_pos (by simpa using h), List.getD_eq_getElem?_getD, List.getElem?_eq_getElem h1]
  simp [bl, ByteArray.getElem_eq_getElem_data]
theorem w64 {x : Int} (h0 : -9223372036854775808 ≤ x) (h1 : x ≤ 9223372036854775807) : wrap64 x = x := by unfold wrap64; omega
theorem or64 (x y : Int) (h0 : 0 ≤ x) (h1 : x < 16777216) (h2 : 0 ≤ y) (h3 : y < 256) : bits .or .i64 (x * 256) y = x * 256 + y :=
  bits_join .i64 40 (by decide) (fun n a b => by rw [IntKind.wrap_i64]; omega) 8 (x * 256) y (by omega) (by omega) (by omega) h2 (by omega) (by omega)
theorem or32 (x y : Int) (h0 : 0 ≤ x) (h1 : x < 16777216) (h2 : 0 ≤ y) (h3 : y < 256) : bits .or .u32 (x * 256 % 4294967296) (y % 4294967296) = x * 256 + y := by
  rw [show x * 256 % 4294967296 = x * 256 by omega, show y % 4294967296 = y by omega]
  exact bits_join .u32 32 (by decide) (fun n a b => by rw [IntKind.wrap_u32]; omega) 8 (x * 256) y (by omega) (by omega) (by omega) h2 (by omega) (by omega)
/-- Four bytes as a number, the highest first. -/
def numB (s : ByteArray) : Int := ((bt s 0 * 256 + bt s 1) * 256 + bt s 2) * 256 + bt s 3
theorem numB_range (s : ByteArray) : 0 ≤ numB s ∧ numB s < 4294967296 := by
  have a := bt_range s 0; have b := bt_range s 1; have c := bt_range s 2; have d := bt_range s 3
  unfold numB; omega
theorem get_eq (k : Nat) (s : ByteArray) (h : 4 ≤ s.size) : slab_get.f (k + 5) s = some (numB s) := by
  unfold slab_get.f
  have a := bt_range s 0; have b := bt_range s 1; have c := bt_range s 2; have d := bt_range s 3
  have e0 : bits .or .u32 (0 * 256 % 4294967296) (bt s 0 % 4294967296) = bt s 0 := by
    rw [or32 0 _ (by omega) (by omega) (by omega) (by omega)]; omega
  have e1 := or32 (bt s 0) (bt s 1) (by omega) (by omega) (by omega) (by omega)
  have e2 := or32 (bt s 0 * 256 + bt s 1) (bt s 2) (by omega) (by omega) (by omega) (by omega)
  have e3 := or32 ((bt s 0 * 256 + bt s 1) * 256 + bt s 2) (bt s 3) (by omega) (by omega) (by omega) (by omega)
  have i1 : wrap64 (0 + 1) = 1 := by unfold wrap64; omega
  have i2 : wrap64 (1 + 1) = 2 := by unfold wrap64; omega
  have i3 : wrap64 (2 + 1) = 3 := by unfold wrap64; omega
  have i4 : wrap64 (3 + 1) = 4 := by unfold wrap64; omega
  rw [slab_get.l0, if_pos (by omega), if_pos (by omega), if_pos (by omega), i1, e0]
  rw [slab_get.l0, if_pos (by omega), if_pos (by omega), if_pos (by omega), i2, e1]
  rw [slab_get.l0, if_pos (by omega), if_pos (by omega), if_pos (by omega), i3, e2]
  rw [slab_get.l0, if_pos (by omega), if_pos (by omega), if_pos (by omega), i4, e3]
  rw [slab_get.l0, if_neg (by omega)]
  rfl
theorem number_eq (s : ByteArray) (h : 4 ≤ s.size) : careenref01_Number.f s = some (numB s) := by
  have a := bt_range s 0; have b := bt_range s 1; have c := bt_range s 2; have d := bt_range s 3
  unfold careenref01_Number.f numB
  rw [if_pos (by omega), if_pos (by omega), if_pos (by omega), if_pos (by omega)]
  congr 1
  omega
theorem numB_bl (s : ByteArray) (h : 4 ≤ s.size) : numB s = num4 ((bl s).getD 0 0) ((bl s).getD 1 0) ((bl s).getD 2 0) ((bl s).getD 3 0) := by
  have a := bt_bl s 0 (by omega); have b := bt_bl s 1 (by omega); have c := bt_bl s 2 (by omega); have d := bt_bl s 3 (by omega)
  unfold numB num4
  rw [show bt s 0 = _ from a, show bt s 1 = _ from b, show bt s 2 = _ from c, show bt s 3 = _ from d]
  omega
theorem of_n32 (a : Int) (h : 0 ≤ a ∧ a < 4294967296) : n32 (BitVec.ofInt 32 a) = a := by
  unfold n32
  rw [BitVec.toNat_ofInt]
  omega
/-- Pack, with its numbers as they are. -/
def packI (e i : Int) (b : ByteArray) : ByteArray × Int := packF (BitVec.ofInt 32 e) (BitVec.ofInt 32 i) b
theorem pack_eq (e i : Int) (b : ByteArray) (he : 0 ≤ e ∧ e < 4294967296) (hi : 0 ≤ i ∧ i < 4294967296) : slab_Pack.f e i b = some (packI e i b) := by
  unfold slab_Pack.f packI
  rw [if_pos ⟨he, hi⟩]
theorem packI_bl (e i : Int) (b : ByteArray) (he : 0 ≤ e ∧ e < 4294967296) (hi : 0 ≤ i ∧ i < 4294967296) (hb : b.size ≤ 112) : bl (packI e i b).1 = secL e i (bl b) ∧ (packI e i b).2 = 0 := by
  unfold packI packF
  rw [if_pos hb]
  refine ⟨?_, rfl⟩
  have := sector_list (BitVec.ofInt 32 e) (BitVec.ofInt 32 i) b hb
  rw [of_n32 e he, of_n32 i hi] at this
  exact this
theorem packI_no (e i : Int) (b : ByteArray) (hb : ¬ b.size ≤ 112) : packI e i b = (⟨#[]⟩, 1) := by
  unfold packI packF
  rw [if_neg hb]
/-- How long a sector's body is. -/
def lenS (s : ByteArray) : Int := bt s 8 * 256 + bt s 9
def cutB (s : ByteArray) : ByteArray := s.extract 12 (12 + (lenS s).toNat)
def nE (s : ByteArray) : Int := numB s
def nI (s : ByteArray) : Int := numB (s.extract 4 s.size)
/-- It is the sector of what it tells. -/
def isSec (s : ByteArray) : Prop := s.size = 128 ∧ lenS s ≤ 112 ∧ secL (nE s) (nI s) (bl (cutB s)) = bl s
instance (s : ByteArray) : Decidable (isSec s) := by unfold isSec; infer_instance
def unpackF (s : ByteArray) : Int × Int × ByteArray × Int := if isSec s then (nE s, nI s, cutB s, 0) else (0, 0, ⟨#[]⟩, 8)
theorem lenS_range (s : ByteArray) : 0 ≤ lenS s ∧ lenS s ≤ 65535 := by
  have a := bt_range s 8; have b := bt_range s 9
  unfold lenS; omega
theorem cutB_size (s : ByteArray) (h : s.size = 128) (hl : lenS s ≤ 112) : ((cutB s).size : Int) = lenS s := by
  have := lenS_range s
  unfold cutB
  rw [ByteArray.size_extract]; omega
theorem loop_bl (s : ByteArray) : ∀ (d i : Nat) (r : List UInt8), i + d = s.size → ByteArray.toList.loop s i r = r.reverse ++ (bl s).drop i := by
  intro d
  induction d with
  | zero =>
    intro i r h
    rw [ByteArray.toList.loop, if_neg (by omega), List.drop_of_length_le (by rw [bl_len]; omega), List.append_nil]
  | succ d ih =>
    intro i r h
    have hi : i < s.size := by omega
    have hl : i < (bl s).length := by rw [bl_len]; exact hi
    rw [ByteArray.toList.loop, if_pos hi, ih (i + 1) _ (by omega), List.drop_eq_getElem_cons hl, List.reverse_cons, List.append_assoc]
    have e : s.get! i = (bl s)[i] := by
      show s.data[i]! = s.data.toList[i]
      have hd : i < s.data.size := hi
      rw [getElem!_pos s.data i hd]
      exact (Array.getElem_toList hd).symm
    rw [e]
    rfl
theorem toList_bl (s : ByteArray) : s.toList = bl s := by
  show ByteArray.toList.loop s 0 [] = _
  rw [loop_bl s s.size 0 [] (by omega)]
  rfl
theorem unpack_eq (k : Nat) (s : ByteArray) : slab_Unpack.f (k + 5) s = some (unpackF s) := by
  unfold slab_Unpack.f unpackF
  by_cases hs : s.size = 128
  · have a := bt_range s 8; have b := bt_range s 9
    have hL := lenS_range s
    have hl : bits .or .i64 (wrap64 ((wrap64 (bt s 8)) * 256)) (wrap64 (bt s 9)) = lenS s := by
      rw [w64 (x := bt s 8) (by omega) (by omega), w64 (x := bt s 9) (by omega) (by omega), w64 (by omega) (by omega), or64 _ _ (by omega) (by omega) (by omega) (by omega)]
      rfl
    rw [if_pos (by omega), if_pos (by omega), if_pos (by omega), hl]
    by_cases h1 : lenS s > 112
    · rw [if_pos h1, if_neg (fun q => by have := q.2.1; omega)]
    · have hw : wrap64 (12 + lenS s) = 12 + lenS s := w64 (by omega) (by omega)
      have h4 : 4 ≤ (s.extract 4 s.size).size := by rw [ByteArray.size_extract]; omega
      have e1 : (12 + lenS s).toNat = 12 + (lenS s).toNat := by omega
      rw [if_neg h1, get_eq k s (by omega)]
      simp only [Option.bind_some]
      rw [if_pos (by omega), get_eq k _ h4]
      simp only [Option.bind_some]
      rw [hw, if_pos (by omega), if_pos (by omega), e1, pack_eq _ _ _ (numB_range _) (numB_range _)]
      simp only [Option.bind_some]
      have hcz := cutB_size s hs (by omega)
      have hP := packI_bl (numB s) (numB (s.extract 4 s.size)) (cutB s) (numB_range _) (numB_range _) (by omega)
      rw [toList_bl, toList_bl]
      show (if bl (packI (numB s) (numB (s.extract 4 s.size)) (cutB s)).1 = bl s then _ else _) = _
      rw [hP.1]
      by_cases q : secL (numB s) (numB (s.extract 4 s.size)) (bl (cutB s)) = bl s
      · rw [if_pos q, if_pos ⟨hs, by omega, q⟩]; rfl
      · rw [if_neg q, if_neg (fun z => q z.2.2)]
  · rw [if_neg (by omega), if_neg (fun q => hs q.1)]
def mk (l : List UInt8) : ByteArray := ⟨l.toArray⟩
theorem bl_mk (l : List UInt8) : bl (mk l) = l := by simp [bl, mk]
theorem mk_bl (s : ByteArray) : mk (bl s) = s := bl_ext (bl_mk _)
theorem crc_bl (s : ByteArray) : crc s = crcL (bl s) := rfl
theorem four_bl (a : Int) (h : 0 ≤ a ∧ a < 4294967296) : careenref01_Four.f a = some (mk (beL a)) := by
  unfold careenref01_Four.f
  congr 1
  have q : a / 2 ^ (24 - 8 * 3) = a := by omega
  simp only [strOfNums, mk, beL, be, List.map_cons, List.map_nil]
  rw [q]
  rfl
theorem le4_bl (a : Int) : strOfNums [a % 256, a / 256 % 256, a / 65536 % 256, a / 16777216 % 256] = mk (leL a) := by
  have q : a / 2 ^ (8 * 0) = a := by omega
  simp only [strOfNums, mk, leL, le, List.map_cons, List.map_nil]
  rw [q]
  rfl
theorem mk_cat (a b : List UInt8) : mk a ++ mk b = mk (a ++ b) := bl_ext (by rw [bl_cat, bl_mk, bl_mk, bl_mk])
theorem mk_size (l : List UInt8) : (mk l).size = l.length := by simp [mk, ByteArray.size]
theorem refl0_ev : ∀ (d : Nat) (l : List UInt8), l.length + d = 124 → Ev (fun k => careenref01_Pack.l0 k (mk l)) (mk ((l ++ List.replicate d 0) ++ leL (n32 (crcL (l ++ List.replicate d 0))))) := by
  intro d
  induction d with
  | zero =>
    intro l h
    refine Ev.step (f := fun _ => some _) (fun k => ?_) (Ev.now _)
    unfold careenref01_Pack.l0
    rw [if_neg (by rw [mk_size]; omega)]
    unfold careenref01_Sum.f
    rw [if_pos (by rw [mk_size]; omega)]
    simp only [Option.bind_some]
    rw [le4_bl, if_pos (by rw [mk_size, mk_size]; show l.length + 4 ≤ _; omega), mk_cat, crc_bl, bl_mk]
    simp
  | succ d ih =>
    intro l h
    refine Ev.step (f := fun k => careenref01_Pack.l0 k (mk (l ++ [0]))) (fun k => ?_) ?_
    · conv => lhs; unfold careenref01_Pack.l0
      rw [if_pos (by rw [mk_size]; omega), if_pos (by rw [mk_size]; omega)]
      rw [show mk l ++ (⟨#[0]⟩ : ByteArray) = mk (l ++ [0]) from mk_cat l [0]]
    · have := ih (l ++ [0]) (by rw [List.length_append]; simp; omega)
      rw [show (l ++ [0]) ++ List.replicate d (0 : UInt8) = l ++ List.replicate (d + 1) 0 by rw [List.append_assoc]; rfl] at this
      exact this
theorem refpack_ev (e i : Int) (b : ByteArray) (he : 0 ≤ e ∧ e < 4294967296) (hi : 0 ≤ i ∧ i < 4294967296) (hb : b.size ≤ 112) : Ev (fun k => careenref01_Pack.f k e i b) (mk (secL e i (bl b))) := by
  have hl : (bl b).length = b.size := bl_len b
  have h4 : strOfNums [0, (b.size : Int) % 256, 0, 0] = mk [0, UInt8.ofNat b.size, 0, 0] := by
    simp only [strOfNums, mk, List.map_cons, List.map_nil]
    have q : ((b.size : Int) % 256).toNat = b.size := by omega
    rw [q]; rfl
  have hc : ((mk (beL e) ++ mk (beL i)) ++ mk [0, UInt8.ofNat b.size, 0, 0]) ++ b = mk (beL e ++ beL i ++ [0, UInt8.ofNat b.size, 0, 0] ++ bl b) := by
    rw [mk_cat, mk_cat]
    have := mk_cat (beL e ++ beL i ++ [0, UInt8.ofNat b.size, 0, 0]) (bl b)
    rw [mk_bl] at this
    exact this
  have := refl0_ev (112 - b.size) (beL e ++ beL i ++ [0, UInt8.ofNat b.size, 0, 0] ++ bl b) (by simp only [List.length_append, hl]; show 4 + 4 + 4 + b.size + (112 - b.size) = 124; omega)
  refine Ev.congr (f := fun k => careenref01_Pack.l0 k (mk (beL e ++ beL i ++ [0, UInt8.ofNat b.size, 0, 0] ++ bl b))) (fun k => ?_) (by
    unfold secL bareL
    rw [hl]; exact this)
  unfold careenref01_Pack.f
  rw [four_bl e he, four_bl i hi]
  simp only [Option.bind_some]
  rw [h4, mk_cat, if_pos (by rw [mk_size, mk_size]; show 4 + 4 ≤ _; omega), if_pos (by rw [mk_size, mk_size]; show 8 + 4 ≤ _; omega), ← mk_cat, if_pos (by
    rw [ByteArray.size_append, ByteArray.size_append, mk_size, mk_size, mk_size]; show 4 + 4 + 4 + b.size ≤ _; omega), hc]
end Go.Proofs.Ytigfeafenjfdlaa.X1
