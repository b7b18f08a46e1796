import Derived.Test.YtbdfdfahpdilpaaWWords
import Derived.Below
import Derived.WalkKit
import Derived.KernelRfl
import Derived.Laws.Rows
import Derived.Lib.BufferWrite
import Derived.Lib.SlBytesRow
import Derived.Laws.BytesArg
import Derived.Deep.Draws
/-! Arrays of bytes: a block whose cells are the bytes of a string. -/
namespace Go.Proofs.Ytbdfdfahpdilpaa.Arr
open Go Go.RowKit Go.Proofs.YtbdfdfahpdilpaaW.PrintWords
/-- The cells of a string's bytes. -/
def row (s : ByteArray) : Array Value := (Lib.byteCells s.data.toList).toArray
theorem row_size (s : ByteArray) : (row s).size = s.size := by simp [row, Lib.byteCells_length]
/-- n noughts. -/
def noughts (n : Nat) : ByteArray := ⟨(List.replicate n (0 : UInt8)).toArray⟩
theorem noughts_size (n : Nat) : (noughts n).size = n := by simp [noughts, ByteArray.size]
theorem row_noughts (n : Nat) : row (noughts n) = Array.replicate n (.int .u8 0) := by
  simp [row, noughts, Lib.byteCells]
/-- s put into t at o. -/
def splice (t : ByteArray) (o : Nat) (s : ByteArray) : ByteArray := ⟨(t.data.toList.take o ++ s.data.toList ++ t.data.toList.drop (o + s.size)).toArray⟩
theorem splice_size (t : ByteArray) (o : Nat) (s : ByteArray) (h : o + s.size ≤ t.size) : (splice t o s).size = t.size := by
  have e1 : t.data.toList.length = t.size := by simp
  have e2 : s.data.toList.length = s.size := by simp
  have e : (splice t o s).size = (t.data.toList.take o ++ s.data.toList ++ t.data.toList.drop (o + s.size)).length := List.size_toArray ..
  rw [e]
  simp only [List.length_append, List.length_take, List.length_drop, e1, e2]
  omega
theorem row_cell (s : ByteArray) (i : Nat) (h : i < s.size) : (row s)[i]? = some (.int .u8 (s[i].toNat : Int)) := by
  have h1 : i < s.data.toList.length := by simpa using h
  simp only [row, Lib.byteCells, List.getElem?_toArray, List.getElem?_map, List.getElem?_eq_getElem h1, Option.map_some]
  rfl
theorem bytes_of_row {w : World} {b : Nat} {T : TypeId} {s : ByteArray} {fr : Nat × Nat} (h : w.heap[b]? = some (.cells (row s) T fr)) : Lib.Bytes w b 0 s := by
  intro i hi
  rw [Nat.zero_add, cell_of_row w b i _ T fr h]
  exact row_cell s i hi
/-- 'string(b[j:j+n])'. -/
theorem conv_row {P : Program} {w : World} {b : Nat} {T : TypeId} {s : ByteArray} {fr : Nat × Nat} (h : w.heap[b]? = some (.cells (row s) T fr)) (src e dst : TypeId) (hs : P.underlying src = some (.slice e)) (he : P.underlying e = some (.int .u8)) (hd : P.underlying dst = some .string) (j n cap : Nat) (hj : j + n ≤ s.size) :
    (convert src dst (.slice (some ⟨b, j, none⟩) n cap)).run P w = .ok (.string (s.extract j (j + n))) w := by
  have h1 := Lib.run_convert_window (P := P) w src e dst hs he hd b 0 s (bytes_of_row h) j n cap hj
  rwa [Nat.zero_add] at h1
theorem conv_whole {P : Program} {w : World} {b : Nat} {T : TypeId} {s : ByteArray} {fr : Nat × Nat} (h : w.heap[b]? = some (.cells (row s) T fr)) (src e dst : TypeId) (hs : P.underlying src = some (.slice e)) (he : P.underlying e = some (.int .u8)) (hd : P.underlying dst = some .string) (n cap : Nat) (hn : s.size = n) :
    (convert src dst (.slice (some ⟨b, 0, none⟩) n cap)).run P w = .ok (.string s) w := by
  subst hn
  exact Lib.run_convert_whole (P := P) w src e dst hs he hd b 0 s (bytes_of_row h) cap
/-- 'copy(b[o:], s)', s a string that fits. -/
theorem copy_row {P : Program} {w : World} {g : Nat} {T : TypeId} {t : ByteArray} (h : w.heap[g]? = some (.cells (row t) T (0, 0))) (dT sT ty elem : TypeId) (hu : P.underlying dT = some (.slice elem)) (hs : (P.info? elem).map (·.size) = some 1) (o dLen dCap : Nat) (s : ByteArray) (hle : s.size ≤ dLen) (hfit : o + s.size ≤ t.size) :
    (Builtin.copy_ #[dT, sT] ty #[.slice (some ⟨g, o, none⟩) dLen dCap, .string s]).run P w = .ok (goInt s.size) (w.setRow g (row (splice t o s))) := by
  rw [Lib.run_copy_row_string w dT sT ty elem g o dLen dCap s (row t) T hu hs h hle (by rw [row_size]; exact hfit)]
  congr 2
  simp [row, splice, Lib.byteCells, List.map_append, List.map_take, List.map_drop]
theorem set_row {w : World} {g : Nat} {T : TypeId} {cs : Array Value} {fr : Nat × Nat} (h : w.heap[g]? = some (.cells cs T fr)) (cs' : Array Value) : (w.setRow g cs').heap[g]? = some (.cells cs' T fr) := setRow_heap w g cs cs' T fr h
theorem below_setRow {w0 w : World} {B g : Nat} (h : Below B w0 w) (hg : B ≤ g) (cs : Array Value) : Below B w0 (w.setRow g cs) :=
  h.trans ⟨rfl, rfl, rfl, by simp, fun k hk => setRow_other w g k cs (by omega)⟩
/-- Any operation whose run is known. -/
theorem event {P : Program} {ops : Array Oper} {rest : List Oper} {o : Oper} {a : Act} {Q : Exit → Act → World → Prop} {W w1 : World} {v : Value} (hgd : o.guard = none) (hrun : (execOp a.eval o).run P W = .ok (.value v) w1) (h : wpList P ops Q rest (a.put o.dst v) w1) : wpList P ops Q (o :: rest) a W := by
  refine wpList_plain hgd fun K hK => ?_
  unfold Oper.wp
  rw [hrun]
  exact hK _ _ h
/-- A new block, its world known by the facts alone. -/
theorem ev_new {P : Program} {ops : Array Oper} {rest : List Oper} {o : Oper} {a : Act} {Q : Exit → Act → World → Prop} {W : World} (N : Tmp) (cs : Array Value) (t : TypeId) (hgd : o.guard = none) (_hd : o.dst = some N)
    (hrun : (execOp a.eval o).run P W = .ok (.value (.pointer (some ⟨W.heap.size, 0, none⟩))) (W.alloc (.cells cs t)))
    (h : ∀ g w1, W.heap.size ≤ g → w1.heap[g]? = some (.cells cs t (0, 0)) → Below W.heap.size W w1 → wpList P ops Q rest (a.put o.dst (.pointer (some ⟨g, 0, none⟩))) w1) : wpList P ops Q (o :: rest) a W :=
  event hgd hrun (h _ _ (Nat.le_refl _) (heap_alloc_new W _) ((Below.refl _ _).alloc (Nat.le_refl _) _))
/-- What stays: Below, from one world to the next. -/
theorem below_trans {w w1 w2 : World} (h : Below w.heap.size w w1) (k : Below w1.heap.size w1 w2) : Below w.heap.size w w2 := h.trans (k.mono h.size)
theorem two_blocks (w : World) (o1 o2 : Obj) : ((w.alloc o1).alloc o2).heap[w.heap.size]? = some o1 ∧ ((w.alloc o1).alloc o2).heap[w.heap.size + 1]? = some o2 ∧ ((w.alloc o1).alloc o2).heap.size = w.heap.size + 2 ∧ Below w.heap.size w ((w.alloc o1).alloc o2) := by
  refine ⟨?_, ?_, by simp, ((Below.refl _ _).alloc (Nat.le_refl _) _).alloc (by simp) _⟩
  · rw [Below.heap_alloc _ _ _ (by simp)]; exact heap_alloc_new _ _
  · rw [← World.size_alloc w o1]; exact heap_alloc_new _ _
theorem run_copy_cells {P : Program} (w : World) (dT sT ty elem : TypeId) (g n sz dCap : Nat) (a : Addr) (sCap : Nat) (cur : Array Value) (t : TypeId) (cs : List Value)
    (hu : P.underlying dT = some (.slice elem)) (hs : (P.info? elem).map (·.size) = some sz)
    (hg : w.heap[g]? = some (.cells cur t (0, 0))) (hn : cs.length = n * sz) (hcur : cur.size = n * sz)
    (hsrc : ∀ j v, cs[j]? = some v → w.cell? (a.add j) = some v) (h1 : ∀ v ∈ cs, v.oneCell' = true) :
    (Builtin.copy_ #[dT, sT] ty #[.slice (some ⟨g, 0, none⟩) n dCap, .slice (some a) n sCap]).run P w =
      .ok (goInt n) (w.setRow g cs.toArray) := by
  have hl := run_loadCells_list (P := P) w a cs hsrc
  have hst := run_storeCells_at P g 0 t cs 0 cur w hg (by simp; omega) h1
  rw [show (0 + 0 + cs.length) = cur.toList.length by simp; omega, List.drop_length, List.append_nil] at hst
  simp only [Nat.add_zero, List.take_zero, List.nil_append] at hst
  cases hq : P.info? elem with
  | none => simp [hq] at hs
  | some i =>
    have hi : i.size = sz := by simpa [hq] using hs
    simp [Builtin.copy_, run_underlying hu, Builtin.lenOf, Builtin.firstCells, sizeOf, typeInfo, hq, hi, ← hn, hl, hst]
theorem run_copy_zero {P : Program} (w : World) (dT sT ty elem : TypeId) (g dCap : Nat) (A : Option Addr) (sCap : Nat)
    (hu : P.underlying dT = some (.slice elem)) (hs : ((P.info? elem).map (·.size)).isSome = true) :
    (Builtin.copy_ #[dT, sT] ty #[.slice (some ⟨g, 0, none⟩) 0 dCap, .slice A 0 sCap]).run P w = .ok (goInt 0) w := by
  cases hq : P.info? elem with
  | none => simp [hq] at hs
  | some i => cases A <;> simp [Builtin.copy_, run_underlying hu, Builtin.lenOf, Builtin.firstCells, sizeOf, typeInfo, hq, storeCells, loadCells, loadCellsFrom]
end Go.Proofs.Ytbdfdfahpdilpaa.Arr
