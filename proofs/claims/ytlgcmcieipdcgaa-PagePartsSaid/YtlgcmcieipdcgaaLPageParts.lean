/- For every page, place, bytes and number, the law PageParts returns true: what is put at a place is got there, and all other bytes stay. No condition. -/
import Derived.Test.YtlgcmcieipdcgaaPure6
import Derived.Test.YtlgcmcieipdcgaaX6RowPageParts
namespace Go.Proofs.Ytlgcmcieipdcgaa.X6
open Go Go.RowKit Go.Proofs.YtlgcmcieipdcgaaW.PrintWords Go.Proofs.Ytlgcmcieipdcgaa.Page Go.Proofs.Ytlgcmcieipdcgaa.Arr
set_option linter.unusedVariables false
theorem lis (t : ByteArray) : t.data.toList.length = t.size := by simp
theorem ext_l (t : ByteArray) (a b : Nat) : (t.extract a b).data.toList = (t.data.toList.drop a).take (b - a) := by simp
theorem eq_l {a b : ByteArray} (h : a.data.toList = b.data.toList) : a = b := ByteArray.ext (Array.toList_inj.1 h)
theorem spl_l (t : ByteArray) (o : Nat) (s : ByteArray) : (splice t o s).data.toList = t.data.toList.take o ++ s.data.toList ++ t.data.toList.drop (o + s.size) := by simp [splice]
theorem spl_mid (t : ByteArray) (o : Nat) (s : ByteArray) (h : o + s.size ≤ t.size) : (splice t o s).extract o (o + s.size) = s := by
  apply eq_l
  have a := lis t
  have b := lis s
  rw [ext_l, spl_l, List.append_assoc, List.drop_append_of_le_length (by rw [List.length_take]; omega), List.drop_of_length_le (by rw [List.length_take]; omega), List.nil_append, List.take_append_of_le_length (by omega), List.take_of_length_le (by omega)]
theorem spl_lo (t : ByteArray) (o : Nat) (s : ByteArray) (h : o + s.size ≤ t.size) : (splice t o s).extract 0 o = t.extract 0 o := by
  apply eq_l
  have a := lis t
  rw [ext_l, ext_l, spl_l, List.append_assoc, List.drop_zero, List.drop_zero, List.take_append_of_le_length (by rw [List.length_take]; omega), List.take_take]
  congr 1
  omega
theorem spl_hi (t : ByteArray) (o : Nat) (s : ByteArray) (h : o + s.size ≤ t.size) : (splice t o s).extract (o + s.size) (splice t o s).size = t.extract (o + s.size) t.size := by
  apply eq_l
  have a := lis t
  have b := lis s
  rw [ext_l, ext_l, spl_l, splice_size t o s h, List.drop_append, List.drop_of_length_le (by rw [List.length_append, List.length_take]; omega), List.nil_append, List.length_append, List.length_take, show o + s.size - (min o t.data.toList.length + s.data.toList.length) = 0 by omega, List.drop_zero]
theorem parts_j (p0 : Int) (p1 : ByteArray) (off at_ : Int) (s : ByteArray) (x : Bool) (hx : s.size ≤ 140737488351232) (ho : (Lit.int .i64 off).wf = true) : careenlaw06_PageParts.j0 3 off s at_ x p0 p1 = some true := by
  simp only [careenlaw06_PageParts.j0]
  cases x with
  | true => rw [if_pos rfl, awake_eq 2 (by omega)]; rfl
  | false =>
    rw [if_neg (by simp), put_eq _ _ _ _ _ hx]
    simp only [Option.bind_some]
    have hs := wf64 ho
    by_cases hok : (0 ≤ p0 ∧ p0 ≤ 2147483647 ∧ p1.size = 220) ∧ (0 ≤ at_ ∧ at_ ≤ 2147483647) ∧ 0 ≤ off ∧ off + s.size ≤ 220
    · obtain ⟨hp, ha, hr⟩ := hok
      obtain ⟨o, rfl⟩ := Int.eq_ofNat_of_zero_le hr.1
      have e : putF p0 p1 (o : Int) s at_ = (at_, splice p1 o s, 0) := by unfold putF; rw [if_pos hp, if_pos ha, if_pos hr]; rfl
      have hsz : (splice p1 o s).size = p1.size := splice_size p1 o s (by omega)
      have g : page_Get.f at_ (splice p1 o s) (o : Int) (s.size : Int) = some (s, 0) := by
        rw [get_eq _ _ _ _ (by omega) (by omega)]
        unfold getF
        rw [if_pos ⟨ha.1, ha.2, by omega⟩, if_pos (by omega), show ((o : Int).toNat) = o by omega, show ((o : Int) + (s.size : Int)).toNat = o + s.size by omega, spl_mid p1 o s (by omega)]
      rw [e]
      simp only [g, Option.bind_some, if_true]
      have w : wrap64 ((o : Int) + (s.size : Int)) = ((o + s.size : Nat) : Int) := by rw [w64 (by omega) (by omega)]; omega
      rw [w]
      simp only [Int.toNat_natCast]
      have q1 : (splice p1 o s).extract 0 o = p1.extract 0 o := spl_lo p1 o s (by omega)
      have q2 : (splice p1 o s).extract (o + s.size) (splice p1 o s).size = p1.extract (o + s.size) p1.size := spl_hi p1 o s (by omega)
      rw [if_pos (by omega), if_pos (by omega), if_pos (by omega), if_pos (by rw [q1]), if_pos (by omega), if_pos (by omega), if_pos (by omega), if_pos (by rw [q2])]
      simp
    · have e : ∃ c : Int, c ≠ 0 ∧ putF p0 p1 off s at_ = (0, ⟨#[]⟩, c) := by
        unfold putF
        by_cases hp : 0 ≤ p0 ∧ p0 ≤ 2147483647 ∧ p1.size = 220
        · rw [if_pos hp]
          by_cases ha : 0 ≤ at_ ∧ at_ ≤ 2147483647
          · rw [if_pos ha, if_neg (fun hr => hok ⟨hp, ha, hr⟩)]; exact ⟨2, by omega, rfl⟩
          · rw [if_neg ha]; exact ⟨1, by omega, rfl⟩
        · rw [if_neg hp]; exact ⟨3, by omega, rfl⟩
      obtain ⟨c, hc, e⟩ := e
      rw [e]
      simp only [hc, if_false]
      decide +kernel
theorem PageParts : RowPageParts.Pure := by
  intro x0 x1 x2 x3 h0 h1 h2 h3
  refine ⟨3, ?_⟩
  unfold careenlaw06_PageParts.f
  rw [awake_eq 3 (by omega)]
  simp only [Option.bind_some, if_true]
  split <;> exact parts_j _ _ _ _ _ _ h2 h1
theorem pageParts_holds : Rows.PagePartsSaid := RowPageParts.holds PageParts
end Go.Proofs.Ytlgcmcieipdcgaa.X6
