import Derived.Test.YtbdfdfahpdilpaaSecs
/-! Layer 1: what a sector's bytes are, as a list. -/
namespace Go.Proofs.Ytbdfdfahpdilpaa.Slab
open Go Go.RowKit Go.Proofs.Ytbdfdfahpdilpaa.Arr Go.Proofs.YtbdfdfahpdilpaaW.PrintWords
set_option linter.unusedVariables false
def beL (a : Int) : List UInt8 := [be a 0, be a 1, be a 2, be a 3]
def leL (a : Int) : List UInt8 := [le a 0, le a 1, le a 2, le a 3]
def crcL (l : List UInt8) : B32 := ~~~ (l.foldl byteS 0xFFFFFFFF#32)
/-- A sector's first 124 bytes; all. -/
def bareL (e i : Int) (b : List UInt8) : List UInt8 := beL e ++ beL i ++ [0, UInt8.ofNat b.length, 0, 0] ++ b ++ List.replicate (112 - b.length) 0
def secL (e i : Int) (b : List UInt8) : List UInt8 := bareL e i b ++ leL (n32 (crcL (bareL e i b)))
theorem bareL_len (e i : Int) (b : List UInt8) (h : b.length ≤ 112) : (bareL e i b).length = 124 := by
  simp [bareL, beL]; omega
theorem secL_len (e i : Int) (b : List UInt8) (h : b.length ≤ 112) : (secL e i b).length = 128 := by
  rw [secL, List.length_append, bareL_len e i b h]; rfl
theorem laid_list (s : ByteArray) (o : Nat) (b : Nat → UInt8) : (laid s o b 4).data.toList = (((s.data.toList.set o (b 0)).set (o + 1) (b 1)).set (o + 2) (b 2)).set (o + 3) (b 3) := by
  simp [laid, setB]
theorem head_list (e i : B32) (n : UInt8) : (setB (laid (laid (noughts 128) 0 (be (n32 e)) 4) 4 (be (n32 i)) 4) 9 n).data.toList = (beL (n32 e) ++ beL (n32 i) ++ [0, n, 0, 0]) ++ List.replicate 116 0 := by
  show ((laid (laid (noughts 128) 0 (be (n32 e)) 4) 4 (be (n32 i)) 4).data.setIfInBounds 9 n).toList = _
  rw [Array.toList_setIfInBounds, laid_list, laid_list]
  rfl
theorem bare_list (e i : B32) (b : ByteArray) (hb : b.size ≤ 112) : (bare e i b).data.toList = bareL (n32 e) (n32 i) b.data.toList ++ [0, 0, 0, 0] := by
  have hl : b.data.toList.length = b.size := by simp
  unfold bare splice
  simp only [head_list]
  have h12 : (beL (n32 e) ++ beL (n32 i) ++ [0, UInt8.ofNat b.size, 0, 0]).length = 12 := rfl
  rw [List.take_append_of_le_length (by rw [h12]; exact Nat.le_refl _), List.take_of_length_le (by rw [h12]; exact Nat.le_refl _), List.drop_append, List.drop_of_length_le (by rw [h12]; omega), h12, List.nil_append, List.drop_replicate]
  unfold bareL
  rw [hl, List.append_assoc (_ ++ b.data.toList)]
  congr 1
  rw [show ([0, 0, 0, 0] : List UInt8) = List.replicate 4 0 from rfl, List.replicate_append_replicate]
  congr 1
  omega
theorem sector_list (e i : B32) (b : ByteArray) (hb : b.size ≤ 112) : (sector e i b).data.toList = secL (n32 e) (n32 i) b.data.toList := by
  have hl : b.data.toList.length ≤ 112 := by simpa using hb
  have hB := bareL_len (n32 e) (n32 i) b.data.toList hl
  have hx : ((bare e i b).extract 0 124).data.toList = bareL (n32 e) (n32 i) b.data.toList := by
    rw [ByteArray.data_extract, Array.toList_extract, bare_list e i b hb]
    simp [List.extract, hB]
  unfold sector secL
  rw [laid_list, bare_list e i b hb]
  have hc : crc ((bare e i b).extract 0 124) = crcL (bareL (n32 e) (n32 i) b.data.toList) := by unfold crc crcL; rw [hx]
  rw [hc]
  generalize bareL (n32 e) (n32 i) b.data.toList = L at *
  rw [List.set_append_right _ _ (by omega), List.set_append_right _ _ (by omega), List.set_append_right _ _ (by omega), List.set_append_right _ _ (by omega), hB]
  rfl
/-! ### Numbers in four bytes -/
def num4 (a b c d : UInt8) : Int := (a.toNat : Int) * 16777216 + b.toNat * 65536 + c.toNat * 256 + d.toNat
theorem num4_be (a : Int) (h : 0 ≤ a ∧ a < 4294967296) : num4 (be a 0) (be a 1) (be a 2) (be a 3) = a := by
  unfold num4 be
  simp only [UInt8.toNat_ofNat']
  simp only [show (24 - 8 * 0) = 24 from rfl, show (24 - 8 * 1) = 16 from rfl, show (24 - 8 * 2) = 8 from rfl, show (24 - 8 * 3) = 0 from rfl]
  have e24 : (2 : Int) ^ 24 = 16777216 := rfl
  have e16 : (2 : Int) ^ 16 = 65536 := rfl
  have e8 : (2 : Int) ^ 8 = 256 := rfl
  have e0 : (2 : Int) ^ 0 = 1 := rfl
  rw [e24, e16, e8, e0]
  omega
theorem num4_range (a b c d : UInt8) : 0 ≤ num4 a b c d ∧ num4 a b c d < 4294967296 := by
  unfold num4
  have := a.toBitVec.isLt; have := b.toBitVec.isLt; have := c.toBitVec.isLt; have := d.toBitVec.isLt
  have ea : a.toNat = a.toBitVec.toNat := rfl
  have eb : b.toNat = b.toBitVec.toNat := rfl
  have ec : c.toNat = c.toBitVec.toNat := rfl
  have ed : d.toNat = d.toBitVec.toNat := rfl
  omega
/-! ### A sector read -/
/-- What a sector's bytes tell: epoch, index, body. -/
def readL (l : List UInt8) : Int × Int × List UInt8 :=
  (num4 (l.getD 0 0) (l.getD 1 0) (l.getD 2 0) (l.getD 3 0), num4 (l.getD 4 0) (l.getD 5 0) (l.getD 6 0) (l.getD 7 0), (l.drop 12).take (l.getD 9 0).toNat)
theorem read_sec (e i : Int) (b : List UInt8) (he : 0 ≤ e ∧ e < 4294967296) (hi : 0 ≤ i ∧ i < 4294967296) (hb : b.length ≤ 112) : readL (secL e i b) = (e, i, b) := by
  have h9 : (UInt8.ofNat b.length).toNat = b.length := by rw [UInt8.toNat_ofNat']; omega
  have e0 : num4 (be e 0) (be e 1) (be e 2) (be e 3) = e := num4_be e he
  have e1 : num4 (be i 0) (be i 1) (be i 2) (be i 3) = i := num4_be i hi
  unfold readL
  have d : (secL e i b).drop 12 = b ++ (List.replicate (112 - b.length) 0 ++ leL (n32 (crcL (bareL e i b)))) := by
    unfold secL
    generalize leL (n32 (crcL (bareL e i b))) = z
    unfold bareL
    rw [List.append_assoc, List.append_assoc]
    rfl
  have g : ∀ j, j < 12 → (secL e i b).getD j 0 = (beL e ++ beL i ++ [0, UInt8.ofNat b.length, 0, 0]).getD j 0 := by
    intro j hj
    unfold secL
    generalize leL (n32 (crcL (bareL e i b))) = z
    unfold bareL
    rw [List.getD_eq_getElem?_getD, List.getD_eq_getElem?_getD, List.append_assoc, List.append_assoc, List.getElem?_append_left]
    exact hj
  rw [d, g 0 (by omega), g 1 (by omega), g 2 (by omega), g 3 (by omega), g 4 (by omega), g 5 (by omega), g 6 (by omega), g 7 (by omega), g 9 (by omega)]
  show (num4 (be e 0) (be e 1) (be e 2) (be e 3), num4 (be i 0) (be i 1) (be i 2) (be i 3), List.take (UInt8.ofNat b.length).toNat _) = _
  rw [e0, e1, h9, List.take_append_of_le_length (Nat.le_refl _), List.take_length]
theorem sec_inj (e i e' i' : Int) (b b' : List UInt8) (he : 0 ≤ e ∧ e < 4294967296) (hi : 0 ≤ i ∧ i < 4294967296) (hb : b.length ≤ 112) (he' : 0 ≤ e' ∧ e' < 4294967296) (hi' : 0 ≤ i' ∧ i' < 4294967296) (hb' : b'.length ≤ 112) (h : secL e i b = secL e' i' b') : e = e' ∧ i = i' ∧ b = b' := by
  have h1 := read_sec e i b he hi hb
  rw [h, read_sec e' i' b' he' hi' hb'] at h1
  simp only [Prod.mk.injEq] at h1
  exact ⟨h1.1.symm, h1.2.1.symm, h1.2.2.symm⟩
end Go.Proofs.Ytbdfdfahpdilpaa.Slab
