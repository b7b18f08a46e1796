import Derived.Test.YtigfeafenjfdlaaSecs
import Derived.Laws.IdiomStrings
/-! '[]byte(s)': a row of one's own that bears a mark behind its last cell. -/
namespace Go.Proofs.Ytigfeafenjfdlaa.Bof
open Go Go.RowKit Go.Proofs.Ytigfeafenjfdlaa.Arr Go.Proofs.YtigfeafenjfdlaaW.PrintWords Go.Proofs.Ytigfeafenjfdlaa.Slab
set_option linter.unusedVariables false
/-- Block g bears s's bytes ahead; a mark behind them. -/
def Holds (w : World) (g : Nat) (T : TypeId) (s : ByteArray) : Prop := ∃ (C : Array Value) (a b : Nat), w.heap[g]? = some (.cells C T (a, b)) ∧ s.size ≤ a ∧ s.size ≤ C.size ∧ ∀ i (h : i < s.size), C[i]? = some (.int .u8 ((s[i]'h).toNat : Int))
theorem Holds.below {w w1 : World} {g : Nat} {T : TypeId} {s : ByteArray} (h : Holds w g T s) (hb : Below w.heap.size w w1) : Holds w1 g T s := by
  obtain ⟨C, a, b, h1, h2⟩ := h
  exact ⟨C, a, b, blk_below h1 hb, h2⟩
theorem Holds.cell {w : World} {g : Nat} {T : TypeId} {s : ByteArray} (h : Holds w g T s) (i : Nat) (hi : i < s.size) : w.cell? ⟨g, i, none⟩ = some (.int .u8 ((s[i]'hi).toNat : Int)) := by
  obtain ⟨C, a, b, h1, _, _, h3⟩ := h
  rw [cell_of_row w g i C T (a, b) h1]
  exact h3 i hi
theorem Holds.frozen {w : World} {g : Nat} {T : TypeId} {s : ByteArray} (h : Holds w g T s) (i : Nat) (hi : i < s.size) : w.frozen? ⟨g, i, none⟩ = false := by
  obtain ⟨C, a, b, h1, h2, _⟩ := h
  simp [World.frozen?, h1]
  omega
theorem setB_get (s : ByteArray) (i : Nat) (v : UInt8) (j : Nat) (h : j < (setB s i v).size) (h' : j < s.size) : (setB s i v)[j] = if i = j then v else s[j] := by
  have h1 : j < (s.data.setIfInBounds i v).size := h
  have h2 : j < s.data.size := h'
  show (s.data.setIfInBounds i v)[j]'h1 = if i = j then v else s.data[j]'h2
  exact Array.getElem_setIfInBounds h2
theorem Holds.set {w : World} {g : Nat} {T : TypeId} {s : ByteArray} (h : Holds w g T s) (i : Nat) (hi : i < s.size) (v : UInt8) : Holds (w.setCell ⟨g, i, none⟩ (.int .u8 (v.toNat : Int))) g T (setB s i v) := by
  obtain ⟨C, a, b, h1, h2, h3, h4⟩ := h
  refine ⟨C.setIfInBounds i (.int .u8 (v.toNat : Int)), a, b, ?_, by rw [setB_size]; exact h2, by rw [setB_size, Array.size_setIfInBounds]; exact h3, fun j hj => ?_⟩
  · simp [World.setCell, h1, Array.getElem?_modify]
  · have hj' : j < s.size := by rwa [setB_size] at hj
    rw [setB_get s i v j hj hj', Array.getElem?_setIfInBounds]
    by_cases e : i = j
    · subst e
      rw [if_pos rfl, if_pos (by omega), if_pos rfl]
    · rw [if_neg e, if_neg e]; exact h4 j hj'
theorem Holds.conv {P : Program} {w : World} {g : Nat} {T : TypeId} {s : ByteArray} (h : Holds w g T s) (src e dst : TypeId) (cap : Nat) (hs : P.underlying src = some (.slice e)) (he : P.underlying e = some (.int .u8)) (hd : P.underlying dst = some .string) :
    (convert src dst (.slice (some ⟨g, 0, none⟩) s.size cap)).run P w = .ok (.string s) w := by
  have hl : s.data.toList.length = s.size := by simp
  have := run_convert_bytes_back (P := P) w src dst e ⟨g, 0, none⟩ cap s.data.toList hs he hd (fun j hj => by
    rw [add_plain, h.cell j (by omega)]
    rfl)
  rw [hl] at this
  exact this
/-- '[]byte(s)'. -/
theorem made {P : Program} (w : World) (src dst e : TypeId) (s : ByteArray) (hs : P.underlying src = some .string) (hd : P.underlying dst = some (.slice e)) (he : P.underlying e = some (.int .u8)) :
    ∃ (c : Nat) (w1 : World), (convert src dst (.string s)).run P w = .ok (.slice (some ⟨w.heap.size, 0, none⟩) s.size c) w1 ∧ s.size ≤ c ∧ Holds w1 w.heap.size e s ∧ Below w.heap.size w w1 := by
  have hge := grownCap_ge w s.size 0 e
  refine ⟨_, _, run_bytes_of_string w src dst e s hs hd he, hge, ⟨bytesRow s (grownCap w s.size 0 e), (bytesRow s (grownCap w s.size 0 e)).size, (bytesRow s (grownCap w s.size 0 e)).size + 1, ?_, ?_, ?_, ?_⟩, ?_⟩
  · show (w.heap.push _)[w.heap.size]? = _
    simp
  · simp [bytesRow]
  · simp [bytesRow]
  · intro i hi
    have h2 : i < s.data.size := hi
    unfold bytesRow
    rw [Array.getElem?_append_left (by simpa using hi), Array.getElem?_map, Array.getElem?_eq_getElem h2]
    rfl
  · exact (Below.refl w.heap.size w).drew.alloc (Nat.le_refl _) _
end Go.Proofs.Ytigfeafenjfdlaa.Bof
