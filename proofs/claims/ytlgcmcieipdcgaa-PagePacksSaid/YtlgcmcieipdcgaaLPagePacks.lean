/- For every page and every bytes, the law PagePacks returns true: page.Pack and page.Unpack give what the document says, and what is packed is unpacked as it was. No condition. -/
import Derived.Test.YtlgcmcieipdcgaaX6PRowPagePacks
import Derived.Laws.BitsLemmas
namespace Go.Proofs.Ytlgcmcieipdcgaa.X6P
open Go Go.RowKit Go.Proofs.YtlgcmcieipdcgaaW.PrintWords Go.Proofs.Ytlgcmcieipdcgaa.Page Go.Proofs.Ytlgcmcieipdcgaa.Arr
set_option linter.unusedVariables false
theorem w64 {x : Int} (h0 : -9223372036854775808 ≤ x) (h1 : x ≤ 9223372036854775807) : wrap64 x = x := by unfold wrap64; omega
theorem right_eq (a : Int) (b : ByteArray) : page_Right.f a b = some (decide (0 ≤ a ∧ a ≤ 2147483647 ∧ b.size = 220)) := by
  unfold page_Right.f
  by_cases h0 : a ≥ 0
  · by_cases h1 : a ≤ 2147483647
    · rw [if_pos h0, if_pos h1]
      congr 1
      rw [Bool.eq_iff_iff]; simp only [beq_iff_eq, decide_eq_true_eq]; omega
    · rw [if_pos h0, if_neg h1]; congr 1; symm; simp; omega
  · rw [if_neg h0]; congr 1; symm; simp; omega
theorem refright_eq (a : Int) (b : ByteArray) : careenref06_Right.f a b = some (decide (0 ≤ a ∧ a ≤ 2147483647 ∧ b.size = 220)) := right_eq a b
theorem awake_eq (k : Nat) (h : 1 ≤ k) : careenlaw06_awake.f k = some true :=
  at_rounds (g := fun k => careenlaw06_awake.f k) careenlaw06_awake.mono h (by decide +kernel)
theorem or_join (x y : Int) (h0 : 0 ≤ x) (h1 : x < 16777216) (h2 : 0 ≤ y) (h3 : y < 256) : bits .or .i64 (x * 256) y = x * 256 + y :=
  bits_join .i64 40 (by decide) (fun n a b => by rw [IntKind.wrap_i64]; omega) 8 (x * 256) y (by omega) (by omega) (by omega) h2 (by omega) (by omega)
/-- Four bytes as a number, the highest first. -/
def numB (s : ByteArray) : Int := ((bt s 0 * 256 + bt s 1) * 256 + bt s 2) * 256 + bt s 3
theorem numB_range (s : ByteArray) : 0 ≤ numB s ∧ numB s < 4294967296 := by
  have a := bt_range s 0; have b := bt_range s 1; have c := bt_range s 2; have d := bt_range s 3
  unfold numB; omega
def unpackF (s : ByteArray) : Int × ByteArray × Int :=
  if s.size = 224 ∧ numB s ≤ 2147483647 then (numB s, s.extract 4 s.size, 0) else (0, ⟨#[]⟩, 3)
theorem tail_size (s : ByteArray) (h : s.size = 224) : (s.extract 4 s.size).size = 220 := by rw [ByteArray.size_extract]; omega
theorem unpack_eq (k : Nat) (s : ByteArray) : page_Unpack.f (k + 5) s = some (unpackF s) := by
  unfold page_Unpack.f unpackF
  by_cases hs : s.size = 224
  · rw [if_pos (by omega), if_pos (by omega)]
    have a := bt_range s 0; have b := bt_range s 1; have c := bt_range s 2; have d := bt_range s 3
    have hn := numB_range s
    have ht := tail_size s hs
    have e0 : bits .or .i64 (wrap64 (0 * 256)) (wrap64 (bt s 0)) = bt s 0 := by
      rw [w64 (by omega) (by omega), w64 (by omega) (by omega), or_join 0 _ (by omega) (by omega) (by omega) (by omega)]; omega
    have e1 : bits .or .i64 (wrap64 (bt s 0 * 256)) (wrap64 (bt s 1)) = bt s 0 * 256 + bt s 1 := by
      rw [w64 (by omega) (by omega), w64 (by omega) (by omega), or_join _ _ (by omega) (by omega) (by omega) (by omega)]
    have e2 : bits .or .i64 (wrap64 ((bt s 0 * 256 + bt s 1) * 256)) (wrap64 (bt s 2)) = (bt s 0 * 256 + bt s 1) * 256 + bt s 2 := by
      rw [w64 (by omega) (by omega), w64 (by omega) (by omega), or_join _ _ (by omega) (by omega) (by omega) (by omega)]
    have e3 : bits .or .i64 (wrap64 (((bt s 0 * 256 + bt s 1) * 256 + bt s 2) * 256)) (wrap64 (bt s 3)) = numB s := by
      rw [w64 (by omega) (by omega), w64 (by omega) (by omega), or_join _ _ (by omega) (by omega) (by omega) (by omega)]; rfl
    have i1 : wrap64 (0 + 1) = 1 := by unfold wrap64; omega
    have i2 : wrap64 (1 + 1) = 2 := by unfold wrap64; omega
    have i3 : wrap64 (2 + 1) = 3 := by unfold wrap64; omega
    have i4 : wrap64 (3 + 1) = 4 := by unfold wrap64; omega
    have fin : page_Unpack.l0 (k + 1) s 4 (numB s) (s.extract 4 s.size) = some (if s.size = 224 ∧ numB s ≤ 2147483647 then (numB s, s.extract 4 s.size, 0) else (0, ⟨#[]⟩, 3)) := by
      rw [page_Unpack.l0, if_neg (by omega), right_eq]
      simp only [Option.bind_some]
      by_cases h : numB s ≤ 2147483647
      · rw [if_pos (by simp only [decide_eq_true_eq]; omega), if_pos (by omega)]
      · rw [if_neg (by simp only [decide_eq_true_eq]; omega), if_neg (by omega)]
    rw [page_Unpack.l0, if_pos (by omega), if_pos (by omega), if_pos (by omega), i1, e0]
    rw [page_Unpack.l0, if_pos (by omega), if_pos (by omega), if_pos (by omega), i2, e1]
    rw [page_Unpack.l0, if_pos (by omega), if_pos (by omega), if_pos (by omega), i3, e2]
    rw [page_Unpack.l0, if_pos (by omega), if_pos (by omega), if_pos (by omega), i4, e3]
    exact fin
  · rw [if_neg (by omega), if_neg (by omega)]
theorem number_eq (s : ByteArray) (h : 4 ≤ s.size) : careenref01_Number.f s = some (numB s) := by
  have a := bt_range s 0; have b := bt_range s 1; have c := bt_range s 2; have d := bt_range s 3
  unfold careenref01_Number.f numB
  rw [if_pos (by omega), if_pos (by omega), if_pos (by omega), if_pos (by omega)]
  congr 1
  omega
theorem refunpack_eq (s : ByteArray) : careenref06_Unpack.f s = some ((unpackF s).1, (unpackF s).2.1, (unpackF s).2.2 == 0) := by
  unfold careenref06_Unpack.f unpackF
  by_cases hs : s.size = 224
  · have hn := numB_range s
    have ht := tail_size s hs
    rw [if_pos (by omega), number_eq s (by omega)]
    simp only [Option.bind_some]
    rw [if_pos (by omega), w64 (by omega) (by omega), refright_eq]
    simp only [Option.bind_some]
    by_cases h : numB s ≤ 2147483647
    · rw [if_pos (by simp only [decide_eq_true_eq]; omega), if_pos (by omega)]; rfl
    · rw [if_neg (by simp only [decide_eq_true_eq]; omega), if_neg (by omega)]; rfl
  · rw [if_neg (by omega), if_neg (by omega)]; rfl
/-- Four bytes of a number. -/
def four (a : Int) : ByteArray := ⟨#[be a 0, be a 1, be a 2, be a 3]⟩
theorem pack_cat (p0 : Int) (p1 : ByteArray) (h : p1.size = 220) : splice (laid (noughts 224) p0 4) 4 p1 = four p0 ++ p1 := by
  apply ByteArray.ext
  apply Array.toList_inj.1
  have e : (noughts 224).data.toList = 0 :: 0 :: 0 :: 0 :: List.replicate 220 (0 : UInt8) := by rfl
  have l : (laid (noughts 224) p0 4).data.toList = be p0 0 :: be p0 1 :: be p0 2 :: be p0 3 :: List.replicate 220 (0 : UInt8) := by
    simp only [laid, setB, Array.toList_setIfInBounds, e, List.set_cons_zero, List.set_cons_succ]
  have r : (four p0 ++ p1).data.toList = [be p0 0, be p0 1, be p0 2, be p0 3] ++ p1.data.toList := by rw [ByteArray.data_append, Array.toList_append]; rfl
  rw [r]
  simp only [splice, l, h]
  have z : List.drop (4 + 220) (be p0 0 :: be p0 1 :: be p0 2 :: be p0 3 :: List.replicate 220 (0 : UInt8)) = [] := List.drop_of_length_le (by simp only [List.length_cons, List.length_replicate]; omega)
  rw [z, List.append_nil]
  rfl
theorem refpack_eq (p0 : Int) (p1 : ByteArray) (h : p1.size = 220) (h0 : 0 ≤ p0) (h1 : p0 ≤ 2147483647) : careenref06_Pack.f p0 p1 = some (four p0 ++ p1) := by
  unfold careenref06_Pack.f careenref01_Four.f
  simp only [Option.bind_some]
  rw [if_pos (by rw [strOfNums_size, h]; simp)]
  congr 1
  have e : p0 % 4294967296 = p0 := by omega
  have f : strOfNums [p0 % 4294967296 / 16777216 % 256, p0 % 4294967296 / 65536 % 256, p0 % 4294967296 / 256 % 256, p0 % 4294967296 % 256] = four p0 := by
    rw [e]
    simp only [strOfNums, four, be, List.map_cons, List.map_nil]
    have q : p0 / 2 ^ (24 - 8 * 3) = p0 := by omega
    rw [q]
    rfl
  rw [f]
theorem cat_list (p0 : Int) (p1 : ByteArray) : (four p0 ++ p1).data.toList = be p0 0 :: be p0 1 :: be p0 2 :: be p0 3 :: p1.data.toList := by rw [ByteArray.data_append, Array.toList_append]; rfl
theorem bt_get (s : ByteArray) (i : Nat) (b : UInt8) (h : s.data.toList[i]? = some b) : bt s (i : Int) = (b.toNat : Int) := by
  have hl : i < s.data.toList.length := (List.getElem?_eq_some_iff.1 h).1
  have hs : i < s.size := by simpa using hl
  unfold bt
  rw [dif_pos (by simpa using hs)]
  have e := (List.getElem?_eq_some_iff.1 h).2
  rw [← e]
  simp [ByteArray.getElem_eq_getElem_data]
theorem be_nat (a : Int) (i : Nat) : ((be a i).toNat : Int) = (a / 2 ^ (24 - 8 * i)) % 256 := by
  unfold be
  rw [UInt8.toNat_ofNat']
  have : 0 ≤ (a / 2 ^ (24 - 8 * i)) % 256 ∧ (a / 2 ^ (24 - 8 * i)) % 256 < 256 := by omega
  omega
theorem numB_cat (p0 : Int) (p1 : ByteArray) (h0 : 0 ≤ p0) (h1 : p0 ≤ 2147483647) : numB (four p0 ++ p1) = p0 := by
  have l := cat_list p0 p1
  have a := bt_get _ 0 _ (by rw [l]; rfl)
  have b := bt_get _ 1 _ (by rw [l]; rfl)
  have c := bt_get _ 2 _ (by rw [l]; rfl)
  have d := bt_get _ 3 _ (by rw [l]; rfl)
  rw [be_nat] at a b c d
  unfold numB
  have a' : bt (four p0 ++ p1) 0 = p0 / 16777216 % 256 := a
  have b' : bt (four p0 ++ p1) 1 = p0 / 65536 % 256 := b
  have c' : bt (four p0 ++ p1) 2 = p0 / 256 % 256 := c
  have d' : bt (four p0 ++ p1) 3 = p0 / 1 % 256 := d
  rw [a', b', c', d']
  omega
theorem unpack_cat (p0 : Int) (p1 : ByteArray) (h : p1.size = 220) (h0 : 0 ≤ p0) (h1 : p0 ≤ 2147483647) : unpackF (four p0 ++ p1) = (p0, p1, 0) := by
  have sz : (four p0 ++ p1).size = 224 := by rw [ByteArray.size_append, h]; rfl
  have t : (four p0 ++ p1).extract 4 (four p0 ++ p1).size = p1 := by
    apply ByteArray.ext
    apply Array.toList_inj.1
    have e : ∀ (s : ByteArray) (a b : Nat), (s.extract a b).data.toList = (s.data.toList.drop a).take (b - a) := fun s a b => by simp
    rw [e, cat_list, sz]
    have q : p1.data.toList.length = 220 := by simpa using h
    simp only [List.drop_succ_cons, List.drop_zero]
    exact List.take_of_length_le (by omega)
  unfold unpackF
  rw [numB_cat p0 p1 h0 h1, if_pos ⟨sz, h1⟩, t]
theorem packs_j1 (p0 : Int) (p1 : ByteArray) : careenlaw06_PagePacks.j1 9 false p0 p1 = some true := by
  simp only [careenlaw06_PagePacks.j1]
  rw [if_neg (by simp), refright_eq]
  simp only [page_Pack.f, Option.bind_some]
  unfold packF
  by_cases hp : 0 ≤ p0 ∧ p0 ≤ 2147483647 ∧ p1.size = 220
  · rw [if_pos hp, if_pos (by simpa using hp), pack_cat p0 p1 hp.2.2, unpack_eq 3, unpack_cat p0 p1 hp.2.2 hp.1 hp.2.1, refpack_eq p0 p1 hp.2.2 hp.1 hp.2.1]
    simp
  · rw [if_neg hp, if_neg (by simpa using hp)]
    decide +kernel
theorem packs_j (p0 : Int) (p1 s : ByteArray) (x : Bool) : careenlaw06_PagePacks.j0 10 s x p0 p1 = some true := by
  rw [careenlaw06_PagePacks.j0]
  cases x with
  | true => rw [if_pos rfl, awake_eq 9 (by omega)]; rfl
  | false =>
    rw [if_neg (by simp), unpack_eq 4, refunpack_eq]
    simp only [Option.bind_some]
    rw [if_neg (by simp), if_neg (by simp)]
    have e3 : (unpackF s).2.2 = 0 ∨ (unpackF s).2.2 = 3 := by unfold unpackF; split <;> simp
    rcases e3 with e | e
    · rw [if_pos (by rw [e]; rfl)]; exact packs_j1 p0 p1
    · rw [if_neg (by rw [e]; simp), show ((unpackF s).2.2 != 3) = false by rw [e]; rfl]; exact packs_j1 p0 p1
theorem PagePacks : RowPagePacks.Pure := by
  intro x0 x1 h0 h1
  refine ⟨10, ?_⟩
  unfold careenlaw06_PagePacks.f
  rw [awake_eq 10 (by omega)]
  simp only [Option.bind_some, if_true]
  split <;> exact packs_j _ _ _ _
theorem pagePacks_holds : Rows.PagePacksSaid := RowPagePacks.holds PagePacks
end Go.Proofs.Ytlgcmcieipdcgaa.X6P
