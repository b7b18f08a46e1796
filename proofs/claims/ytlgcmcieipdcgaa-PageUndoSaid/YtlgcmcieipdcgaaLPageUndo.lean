/- For every page, place, bytes and number, the law PageUndo returns true: an update, and an undo of it behind it, leave the bytes as they were, with the undo's place. No condition. -/
import Derived.Test.YtlgcmcieipdcgaaPure6
import Derived.Test.YtlgcmcieipdcgaaX6RowPageUndo
namespace Go.Proofs.Ytlgcmcieipdcgaa.X6
open Go Go.RowKit Go.Proofs.YtlgcmcieipdcgaaW.PrintWords Go.Proofs.Ytlgcmcieipdcgaa.Page Go.Proofs.Ytlgcmcieipdcgaa.Arr
set_option linter.unusedVariables false
theorem ulis (t : ByteArray) : t.data.toList.length = t.size := by simp
theorem uext_l (t : ByteArray) (a b : Nat) : (t.extract a b).data.toList = (t.data.toList.drop a).take (b - a) := by simp
theorem ueq_l {a b : ByteArray} (h : a.data.toList = b.data.toList) : a = b := ByteArray.ext (Array.toList_inj.1 h)
theorem uspl_l (t : ByteArray) (o : Nat) (s : ByteArray) : (splice t o s).data.toList = t.data.toList.take o ++ s.data.toList ++ t.data.toList.drop (o + s.size) := by simp [splice]
/-- What was put over is put back. -/
theorem spl_back (t : ByteArray) (o : Nat) (s : ByteArray) (h : o + s.size ≤ t.size) : splice (splice t o s) o (t.extract o (o + s.size)) = t := by
  apply ueq_l
  have a := ulis t
  have b := ulis s
  have c : (t.extract o (o + s.size)).size = s.size := by rw [← ulis, uext_l, List.length_take, List.length_drop]; omega
  rw [uspl_l, uspl_l, uext_l, c]
  have e1 : (t.data.toList.take o ++ s.data.toList ++ t.data.toList.drop (o + s.size)).take o = t.data.toList.take o := by
    rw [List.append_assoc, List.take_append_of_le_length (by rw [List.length_take]; omega), List.take_take]; congr 1; omega
  have e2 : (t.data.toList.take o ++ s.data.toList ++ t.data.toList.drop (o + s.size)).drop (o + s.size) = t.data.toList.drop (o + s.size) := by
    rw [List.drop_append, List.drop_of_length_le (by rw [List.length_append, List.length_take]; omega), List.nil_append, List.length_append, List.length_take, show o + s.size - (min o t.data.toList.length + s.data.toList.length) = 0 by omega, List.drop_zero]
  rw [e1, e2, show o + s.size - o = s.size by omega, List.append_assoc, ← List.drop_drop, List.take_append_drop, List.take_append_drop]
theorem undo_j (p0 : Int) (p1 : ByteArray) (off at_ : Int) (s : ByteArray) (x : Bool) (hx : s.size ≤ 140737488351232) (ho : (Lit.int .i64 off).wf = true) (ha : 0 ≤ at_ ∧ at_ < 1000000) (hlt : x = false → p0 < at_) : careenlaw06_PageUndo.j0 4 off s at_ x p0 p1 = some true := by
  simp only [careenlaw06_PageUndo.j0]
  cases x with
  | true => rw [if_pos rfl, awake_eq 3 (by omega)]; rfl
  | false =>
    rw [if_neg (by simp), get_eq _ _ _ _ (wf64 ho) (by omega)]
    simp only [Option.bind_some]
    by_cases hok : (0 ≤ p0 ∧ p0 ≤ 2147483647 ∧ p1.size = 220) ∧ 0 ≤ off ∧ off + s.size ≤ 220
    · obtain ⟨hp, hr⟩ := hok
      have hl := hlt rfl
      obtain ⟨o, rfl⟩ := Int.eq_ofNat_of_zero_le hr.1
      have e : getF p0 p1 (o : Int) (s.size : Int) = (p1.extract o (o + s.size), 0) := by
        unfold getF; rw [if_pos hp, if_pos (by omega), show ((o : Int).toNat) = o by omega, show ((o : Int) + (s.size : Int)).toNat = o + s.size by omega]
      have c : (p1.extract o (o + s.size)).size = s.size := by rw [← ulis, uext_l, List.length_take, List.length_drop, ulis]; omega
      have hsz : (splice p1 o s).size = p1.size := splice_size p1 o s (by omega)
      have a1 : page_Apply.f 3 p0 p1 at_ 1 0 0 (o : Int) 0 0 0 (p1.extract o (o + s.size)) s [] [] = some (at_, splice p1 o s) := by
        rw [apply_eq 2 _ _ _ _ _ _ _ _ _ _ _ _ _ _ hx]
        have q : putF p0 p1 (o : Int) s at_ = (at_, splice p1 o s, 0) := by unfold putF; rw [if_pos hp, if_pos (by omega), if_pos (by omega)]; rfl
        unfold applyF; rw [q]; simp [hl]
      have a2 : page_Apply.f 3 at_ (splice p1 o s) (at_ + 1) 2 0 0 (o : Int) 0 0 0 ⟨#[]⟩ (p1.extract o (o + s.size)) [] [] = some (at_ + 1, p1) := by
        rw [apply_eq 2 _ _ _ _ _ _ _ _ _ _ _ _ _ _ (by omega)]
        have q : putF at_ (splice p1 o s) (o : Int) (p1.extract o (o + s.size)) (at_ + 1) = (at_ + 1, p1, 0) := by
          unfold putF; rw [if_pos (by omega), if_pos (by omega), if_pos (by omega)]
          simp only [Int.toNat_natCast]
          rw [spl_back p1 o s (by omega)]
        unfold applyF; rw [q]; simp; omega
      rw [e, w64 (by omega) (by omega)]
      simp only [if_true]
      rw [a1]
      simp only [Option.bind_some]
      rw [a2]
      simp
    · have e : ∃ c : Int, c ≠ 0 ∧ (getF p0 p1 off (s.size : Int)).2 = c := by
        unfold getF
        by_cases hp : 0 ≤ p0 ∧ p0 ≤ 2147483647 ∧ p1.size = 220
        · rw [if_pos hp, if_neg (fun hr => hok ⟨hp, hr.1, hr.2.2⟩)]; exact ⟨2, by omega, rfl⟩
        · rw [if_neg hp]; exact ⟨3, by omega, rfl⟩
      obtain ⟨c, hc, e⟩ := e
      rw [e, if_neg hc]
theorem PageUndo : RowPageUndo.Pure := by
  intro x0 x1 x2 x3 h0 h1 h2 h3
  refine ⟨4, ?_⟩
  unfold careenlaw06_PageUndo.f
  rw [awake_eq 4 (by omega)]
  simp only [Option.bind_some, if_true]
  obtain ⟨m, hm, hml⟩ := umod x3 1000000 (by omega) (by omega)
  rw [hm]
  split
  · exact undo_j _ _ _ _ _ _ h2 h1 (by omega) (fun h => by cases h)
  · split
    · exact undo_j _ _ _ _ _ _ h2 h1 (by omega) (fun h => by cases h)
    · exact undo_j _ _ _ _ _ _ h2 h1 (by omega) (fun h => by simpa using h)
theorem pageUndo_holds : Rows.PageUndoSaid := RowPageUndo.holds PageUndo
end Go.Proofs.Ytlgcmcieipdcgaa.X6
