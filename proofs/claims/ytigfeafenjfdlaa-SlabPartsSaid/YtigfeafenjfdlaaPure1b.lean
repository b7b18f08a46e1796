import Derived.Test.YtigfeafenjfdlaaPure1
/-! Layer 1: the document's Unpack in closed form. -/
namespace Go.Proofs.Ytigfeafenjfdlaa.X1
open Go Go.RowKit Go.Proofs.YtigfeafenjfdlaaW.PrintWords Go.Proofs.Ytigfeafenjfdlaa.Slab
set_option linter.unusedVariables false
theorem getD_cut (l : List UInt8) (a n j : Nat) (h : j < n) : ((l.drop a).take n).getD j 0 = l.getD (a + j) 0 := by
  rw [List.getD_eq_getElem?_getD, List.getD_eq_getElem?_getD, List.getElem?_take_of_lt h, List.getElem?_drop]
theorem numB_cut (s : ByteArray) (a b : Nat) (h : a + 4 ≤ b) (hb : b ≤ s.size) : numB (s.extract a b) = num4 ((bl s).getD a 0) ((bl s).getD (a + 1) 0) ((bl s).getD (a + 2) 0) ((bl s).getD (a + 3) 0) := by
  rw [numB_bl _ (by rw [ByteArray.size_extract]; omega), bl_cut, getD_cut _ _ _ _ (by omega), getD_cut _ _ _ _ (by omega), getD_cut _ _ _ _ (by omega), getD_cut _ _ _ _ (by omega)]
  rfl
def refunpackF (s : ByteArray) : Int × Int × ByteArray × Bool := if isSec s then (nE s, nI s, cutB s, true) else (0, 0, ⟨#[]⟩, false)
theorem refun_no (s : ByteArray) (h : ¬ isSec s) : Ev (fun k => careenref01_Unpack.j0 k s true) (refunpackF s) := by
  refine Ev.step (f := fun _ => some _) (fun k => ?_) (Ev.now _)
  unfold refunpackF
  rw [if_neg h]
  rfl
theorem refunpack_ev (s : ByteArray) : Ev (fun k => careenref01_Unpack.f k s) (refunpackF s) := by
  by_cases hs : s.size = 128
  · have a := bt_range s 8; have b := bt_range s 9
    by_cases h8 : bt s 8 = 0
    · by_cases h9 : bt s 9 > 112
      · refine Ev.congr (fun k => ?_) (refun_no s (fun q => by have := q.2.1; unfold lenS at this; omega))
        unfold careenref01_Unpack.f
        rw [if_pos (by omega), if_pos (by omega), if_pos h8, if_pos (by omega), decide_eq_true h9]
      · refine Ev.congr (f := fun k => careenref01_Unpack.j0 k s false) (fun k => ?_) ?_
        · unfold careenref01_Unpack.f
          rw [if_pos (by omega), if_pos (by omega), if_pos h8, if_pos (by omega), decide_eq_false h9]
        · have hL : lenS s = bt s 9 := by unfold lenS; omega
          have hw : wrap64 (12 + (wrap64 (bt s 9))) = 12 + lenS s := by rw [w64 (x := bt s 9) (by omega) (by omega), hL, w64 (by omega) (by omega)]
          have eE : numB (s.extract 0 4) = nE s := by rw [numB_cut s 0 4 (by omega) (by omega)]; unfold nE; rw [numB_bl s (by omega)]
          have eI : numB (s.extract 4 8) = nI s := by unfold nI; rw [numB_cut s 4 8 (by omega) (by omega), numB_cut s 4 s.size (by omega) (by omega)]
          have e1 : (12 + lenS s).toNat = 12 + (lenS s).toNat := by omega
          have hcz := cutB_size s hs (by omega)
          have hp := refpack_ev (nE s) (nI s) (cutB s) (numB_range _) (numB_range _) (by omega)
          refine Ev.step (f := fun k => (careenref01_Pack.f k (nE s) (nI s) (cutB s)).bind fun t => if t.toList = s.toList then some (nE s, nI s, cutB s, true) else some (0, 0, ⟨#[]⟩, false)) (fun k => ?_) ?_
          · rw [careenref01_Unpack.j0, if_neg (by decide), if_pos (by omega), if_pos (by omega), number_eq _ (by rw [ByteArray.size_extract]; omega)]
            simp only [Option.bind_some]
            rw [if_pos (by omega), if_pos (by omega), number_eq _ (by rw [ByteArray.size_extract]; omega)]
            simp only [Option.bind_some]
            rw [if_pos (by omega), hw, if_pos (by omega), if_pos (by omega), eE, eI, e1]
            rfl
          · refine Ev.bind hp ?_
            rw [toList_bl, toList_bl, bl_mk]
            by_cases q : secL (nE s) (nI s) (bl (cutB s)) = bl s
            · have r : refunpackF s = (nE s, nI s, cutB s, true) := if_pos ⟨hs, by omega, q⟩
              rw [r, if_pos q]; exact Ev.now _
            · have r : refunpackF s = (0, 0, ⟨#[]⟩, false) := if_neg (fun z => q z.2.2)
              rw [r, if_neg q]; exact Ev.now _
    · refine Ev.congr (fun k => ?_) (refun_no s (fun q => by have := q.2.1; unfold lenS at this; omega))
      unfold careenref01_Unpack.f
      rw [if_pos (by omega), if_pos (by omega), if_neg h8]
  · refine Ev.congr (fun k => ?_) (refun_no s (fun q => hs q.1))
    unfold careenref01_Unpack.f
    rw [if_neg (by omega)]
end Go.Proofs.Ytigfeafenjfdlaa.X1
