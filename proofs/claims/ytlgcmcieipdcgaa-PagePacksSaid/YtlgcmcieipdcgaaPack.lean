import Derived.Test.YtlgcmcieipdcgaaPage
import Derived.Deep.DeepCutAuto
namespace Go.Proofs.Ytlgcmcieipdcgaa.Page
open Go Go.RowKit Go.Proofs.Ytlgcmcieipdcgaa.Arr Go.Proofs.YtlgcmcieipdcgaaW.PrintWords Go.Proofs.YtlgcmcieipdcgaaW.PrintMore
attribute [local go_sem] max2_int min2_int max_two min_two
set_option linter.unusedVariables false
set_option maxRecDepth 100000 in
theorem z224 (w : World) : (zeroValue 78).run Try.prog w = .ok (.agg (row (noughts 224))) w := by rw [row_noughts]; kernel_rfl
/-- A byte set. -/
def setB (s : ByteArray) (i : Nat) (b : UInt8) : ByteArray := ⟨s.data.setIfInBounds i b⟩
theorem setB_size (s : ByteArray) (i : Nat) (b : UInt8) : (setB s i b).size = s.size := Array.size_setIfInBounds ..
theorem row_setB (s : ByteArray) (i : Nat) (v : Int) (h0 : 0 ≤ v) (h1 : v < 256) : (row s).setIfInBounds i (.int .u8 v) = row (setB s i (UInt8.ofNat v.toNat)) := by
  apply Array.toList_inj.1
  have e : ((UInt8.ofNat v.toNat).toNat : Int) = v := by
    rw [UInt8.toNat_ofNat']; omega
  simp only [row, setB, Lib.byteCells, Array.toList_setIfInBounds, List.map_set, e]
/-- Four bytes of a number, the highest first: the first k of them laid into s. -/
def be (a : Int) (i : Nat) : UInt8 := UInt8.ofNat ((a / 2 ^ (24 - 8 * i)) % 256).toNat
def laid (s : ByteArray) (a : Int) : Nat → ByteArray
  | 0 => s
  | k + 1 => setB (laid s a k) k (be a k)
theorem laid_size (s : ByteArray) (a : Int) (k : Nat) : (laid s a k).size = s.size := by
  induction k with
  | zero => rfl
  | succ k ih => rw [laid, setB_size, ih]
theorem store_laid {w : World} {g : Nat} {T : TypeId} {s : ByteArray} {a : Int} (k : Nat) (h : w.heap[g]? = some (.cells (row (laid s a k)) T (0, 0))) (v : Int) (hv : v = (a / 2 ^ (24 - 8 * k)) % 256) : (w.setCell ⟨g, k, none⟩ (.int .u8 v)).heap[g]? = some (.cells (row (laid s a (k + 1))) T (0, 0)) := by
  have h2 := blk_set h k (.int .u8 v)
  have hb : 0 ≤ v ∧ v < 256 := by subst hv; omega
  rw [row_setB _ _ _ hb.1 hb.2] at h2
  rw [h2, laid, be, hv]
def packF (p0 : Int) (p1 : ByteArray) : ByteArray × Int :=
  if 0 ≤ p0 ∧ p0 ≤ 2147483647 ∧ p1.size = 220 then (splice (laid (noughts 224) p0 4) 4 p1, 0) else (⟨#[]⟩, 3)
theorem pack_calls (p0 : Int) (p1 : ByteArray) (w : World) :
    Calls Try.prog 39 #[.agg #[.int .i64 p0, .string p1]] w (Post (.tuple #[.string (packF p0 p1).1, .int .i64 (packF p0 p1).2]) w) := by
  unfold packF
  by_cases hp : 0 ≤ p0 ∧ p0 ≤ 2147483647 ∧ p1.size = 220
  · rw [if_pos hp]
    have hr := right_calls p0 p1 true (by simp [hp])
    go_enter Try.func39, Try.ntmps39
    go_upto_region 1 with (fail)
    have b0 := heap_alloc_new w (Obj.cells #[Value.int IntKind.i64 p0, Value.string p1] 23)
    have hB := (Below.refl w.heap.size w).alloc (Nat.le_refl _) (Obj.cells #[Value.int IntKind.i64 p0, Value.string p1] 23)
    generalize w.alloc (Obj.cells #[Value.int IntKind.i64 p0, Value.string p1] 23) = W at *
    have c0 := blk_cell b0 0; have c1 := blk_cell b0 1
    have B0 := Aside0.mk b0; have HB := Aside0.mk hB; clear b0 hB
    have HP := Aside0.mk hp; clear hp
    go_upto_region 3 with (go_at_call 20; refine (hr _).mono ?_; rintro e w' ⟨rfl, hb⟩)
    have h77 := z224
    go_upto_region 4 with (fail)
    have e0 := blk_alloc (blk_below B0.out hb) (Obj.cells (row (noughts 224)) 78)
    have e1 := heap_alloc_new w' (Obj.cells (row (noughts 224)) 78)
    have hB3 := (below_trans HB.out hb).alloc (by have := hb.size; have := HB.out.size; omega) (Obj.cells (row (noughts 224)) 78)
    have hz2 : w.heap.size < w'.heap.size := blk_lt (blk_below B0.out hb)
    have B0' := Aside0.mk e0; have B1 := Aside0.mk e1; have HB3 := Aside0.mk hB3
    clear B0 HB c0 c1 hb h77 e0 e1 hB3
    generalize w'.alloc (Obj.cells (row (noughts 224)) 78) = w2 at *
    generalize w'.heap.size = g at *
    go_upto_region 5 with (fail)
    go_loopw [9] (fun i wr => ∃ k : Nat, i = .int .i64 k ∧ Aside0 (k ≤ 4) ∧ Aside0 (wr.heap[w.heap.size]? = some (.cells #[.int .i64 p0, .string p1] 23 (0, 0))) ∧ Aside0 (wr.heap[g]? = some (.cells (row (laid (noughts 224) p0 k)) 78 (0, 0))) ∧ Aside0 (Below w.heap.size w wr)) (fun i _ => 4 - (intOf i).toNat)
    case atStart => exact ⟨0, rfl, ⟨by omega⟩, B0', B1, HB3⟩
    case round =>
      clear B0' B1 HB3
      obtain ⟨k, rfl, hk, B0, B1, HB⟩ := hrel
      have hp0 := HP.out.1
      have hp1 := HP.out.2.1
      rcases (show k = 0 ∨ k = 1 ∨ k = 2 ∨ k = 3 ∨ k = 4 by have := hk.out; omega) with rfl | rfl | rfl | rfl | rfl
      · have c0 := blk_cell B0.out 0
        have c1 := (blk_cell B1.out 0).trans (row_cell _ 0 (by rw [laid_size, noughts_size]; omega))
        have f1 := blk_frozen B1.out 0
        go_wp2
        have B3 := store_laid 0 B1.out (p0 / 16777216) (by omega)
        go_roundw
        case rel => exact ⟨1, rfl, ⟨by omega⟩, ⟨blk_far B0.out (by simp; omega) _⟩, ⟨B3⟩, ⟨HB.out.setCell (by simp; omega) _⟩⟩
        case measure => simp [intOf]
      · have c0 := blk_cell B0.out 0
        have c1 := (blk_cell B1.out 1).trans (row_cell _ 1 (by rw [laid_size, noughts_size]; omega))
        have f1 := blk_frozen B1.out 1
        go_wp2
        have B3 := store_laid 1 B1.out (p0 / 65536 % 256) (by omega)
        go_roundw
        case rel => exact ⟨2, rfl, ⟨by omega⟩, ⟨blk_far B0.out (by simp; omega) _⟩, ⟨B3⟩, ⟨HB.out.setCell (by simp; omega) _⟩⟩
        case measure => simp [intOf]
      · have c0 := blk_cell B0.out 0
        have c1 := (blk_cell B1.out 2).trans (row_cell _ 2 (by rw [laid_size, noughts_size]; omega))
        have f1 := blk_frozen B1.out 2
        go_wp2
        have B3 := store_laid 2 B1.out (p0 / 256 % 256) (by omega)
        go_roundw
        case rel => exact ⟨3, rfl, ⟨by omega⟩, ⟨blk_far B0.out (by simp; omega) _⟩, ⟨B3⟩, ⟨HB.out.setCell (by simp; omega) _⟩⟩
        case measure => simp [intOf]
      · have c0 := blk_cell B0.out 0
        have c1 := (blk_cell B1.out 3).trans (row_cell _ 3 (by rw [laid_size, noughts_size]; omega))
        have f1 := blk_frozen B1.out 3
        go_wp2
        have B3 := store_laid 3 B1.out (p0 % 256) (by omega)
        go_roundw
        case rel => exact ⟨4, rfl, ⟨by omega⟩, ⟨blk_far B0.out (by simp; omega) _⟩, ⟨B3⟩, ⟨HB.out.setCell (by simp; omega) _⟩⟩
        case measure => simp [intOf]
      · clear hk
        go_upto_region 9 with (fail)
        have hs := HP.out.2.2
        have c0 := blk_cell B0.out 1
        have cp := copy_row (w := wr.drew) B1.out 56 9 3 5 Try.underlying56 rfl 4 220 220 p1 (by omega) (by rw [laid_size, noughts_size]; omega)
        have g0 := set_row (w := wr.drew) B1.out (row (splice (laid (noughts 224) p0 4) 4 p1))
        have hB5 := below_setRow (HB.out.drew) (g := g) (by omega) (row (splice (laid (noughts 224) p0 4) 4 p1))
        have cv := conv_whole g0 56 5 9 Try.underlying56 Try.underlying5 Try.underlying9 224 224 (by rw [splice_size _ _ _ (by rw [laid_size, noughts_size]; omega), laid_size, noughts_size])
        have CV := Aside0.mk cv; have HB5 := Aside0.mk hB5
        clear cv g0 hB5 hs
        go_region
        generalize wr.drew.setRow g (row (splice (laid (noughts 224) p0 4) 4 p1)) = w5 at *
        have cv := CV.out
        clear cp
        go_wp2
        go_ret2
        exact ⟨rfl, HB5.out⟩
  · rw [if_neg hp]
    have hr := right_calls p0 p1 false (by simp [hp])
    clear hp
    go_enter Try.func39, Try.ntmps39
    go_wp2_with (go_at_call 20; refine (hr _).mono ?_; rintro e w' ⟨rfl, hb⟩)
    go_ret2
    exact ⟨rfl, below_trans ((Below.refl w.heap.size w).alloc (Nat.le_refl _) _) hb⟩
end Go.Proofs.Ytlgcmcieipdcgaa.Page
