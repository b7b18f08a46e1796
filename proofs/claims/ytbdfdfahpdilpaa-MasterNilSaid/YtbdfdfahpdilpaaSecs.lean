import Derived.Test.YtbdfdfahpdilpaaCrc
import Derived.Test.YtbdfdfahpdilpaaWLast
/-! Layer 1: a number put into four bytes; a sector of noughts; a slab's sector. -/
namespace Go.Proofs.Ytbdfdfahpdilpaa.Slab
open Go Go.RowKit Go.Proofs.Ytbdfdfahpdilpaa.Arr Go.Proofs.YtbdfdfahpdilpaaW.PrintWords Go.Proofs.YtbdfdfahpdilpaaW.PrintLast Go.Proofs.YtbdfdfahpdilpaaW.PrintMore
set_option linter.unusedVariables false
set_option linter.unusedSimpArgs false
set_option maxRecDepth 100000 in
theorem z128 (w : World) : (zeroValue 102).run Try.prog w = .ok (.agg (row (noughts 128))) w := by rw [row_noughts]; kernel_rfl
/-- A byte set. -/
def setB (s : ByteArray) (i : Nat) (b : UInt8) : ByteArray := ⟨s.data.setIfInBounds i b⟩
theorem setB_size (s : ByteArray) (i : Nat) (b : UInt8) : (setB s i b).size = s.size := Array.size_setIfInBounds ..
theorem row_setB (s : ByteArray) (i : Nat) (v : Int) (h0 : 0 ≤ v) (h1 : v < 256) : (row s).setIfInBounds i (.int .u8 v) = row (setB s i (UInt8.ofNat v.toNat)) := by
  apply Array.toList_inj.1
  have e : ((UInt8.ofNat v.toNat).toNat : Int) = v := by
    rw [UInt8.toNat_ofNat']; omega
  simp only [row, setB, Lib.byteCells, Array.toList_setIfInBounds, List.map_set, e]
/-- Four bytes of a number, the highest first; the lowest first. -/
def be (a : Int) (i : Nat) : UInt8 := UInt8.ofNat ((a / 2 ^ (24 - 8 * i)) % 256).toNat
def le (a : Int) (i : Nat) : UInt8 := UInt8.ofNat ((a / 2 ^ (8 * i)) % 256).toNat
def laid (s : ByteArray) (o : Nat) (b : Nat → UInt8) : Nat → ByteArray
  | 0 => s
  | k + 1 => setB (laid s o b k) (o + k) (b k)
theorem laid_size (s : ByteArray) (o : Nat) (b : Nat → UInt8) (k : Nat) : (laid s o b k).size = s.size := by
  induction k with
  | zero => rfl
  | succ k ih => rw [laid, setB_size, ih]
theorem store_laid {w : World} {g : Nat} {T : TypeId} {s : ByteArray} {o : Nat} {b : Nat → UInt8} (k : Nat) (h : w.heap[g]? = some (.cells (row (laid s o b k)) T (0, 0))) (v : Int) (hv : UInt8.ofNat v.toNat = b k) (h0 : 0 ≤ v) (h1 : v < 256) : (w.setCell ⟨g, o + k, none⟩ (.int .u8 v)).heap[g]? = some (.cells (row (laid s o b (k + 1))) T (0, 0)) := by
  have h2 := blk_set h (o + k) (.int .u8 v)
  rw [row_setB _ _ _ h0 h1, hv] at h2
  exact h2
theorem put_calls (s : ByteArray) (T : TypeId) (o g len cap : Nat) (n : B32) (w : World) (hg : w.heap[g]? = some (.cells (row s) T (0, 0))) (ho : o + 4 ≤ s.size) (hl : 4 ≤ len) :
    Calls Try.prog 58 #[.slice (some ⟨g, o, none⟩) len cap, U n] w fun e w' => e = .returned (.tuple #[]) ∧ w'.heap[g]? = some (.cells (row (laid s o (be (n32 n)) 4)) T (0, 0)) ∧ Below g w w' := by
  have hn := n32_lt n
  unfold U
  generalize hm : n32 n = m at *
  have HM := Aside0.mk hm; clear hm
  have B0 := Aside0.mk hg; clear hg
  have HB := Aside0.mk (Below.refl g w)
  go_enter Try.func58, Try.ntmps58
  go_upto_region 1 with (fail)
  go_loopw [5] (fun i wr => ∃ k : Nat, i = .int .i64 k ∧ Aside0 (k ≤ 4) ∧ Aside0 (wr.heap[g]? = some (.cells (row (laid s o (be m) k)) T (0, 0))) ∧ Aside0 (Below g w wr)) (fun i _ => 4 - (intOf i).toNat)
  case atStart => exact ⟨0, rfl, ⟨by omega⟩, B0, HB⟩
  case round =>
    clear B0 HB
    obtain ⟨k, rfl, hk, B0, HB⟩ := hrel
    rcases (show k = 0 ∨ k = 1 ∨ k = 2 ∨ k = 3 ∨ k = 4 by have := hk.out; omega) with rfl | rfl | rfl | rfl | rfl
    · have c1 : wr.cell? ⟨g, o, none⟩ = _ := (blk_cell B0.out (o + 0)).trans (row_cell _ (o + 0) (by rw [laid_size]; omega))
      have f1 : wr.frozen? ⟨g, o, none⟩ = false := blk_frozen B0.out (o + 0)
      have i0 : (0 : Int) < (len : Int) := by omega
      go_wp2
      have B3 := store_laid 0 B0.out (m / 16777216) (by unfold be; congr 2 <;> omega) (by omega) (by omega)
      have HB3 := HB.out.setCell (p := ⟨g, o + 0, none⟩) (Nat.le_refl g) (.int .u8 (m / 16777216))
      go_roundw
      case rel => exact ⟨1, rfl, ⟨by omega⟩, ⟨B3⟩, ⟨HB3⟩⟩
      case measure => simp [intOf]
    · have c1 : wr.cell? ⟨g, o + 1, none⟩ = _ := (blk_cell B0.out (o + 1)).trans (row_cell _ (o + 1) (by rw [laid_size]; omega))
      have f1 : wr.frozen? ⟨g, o + 1, none⟩ = false := blk_frozen B0.out (o + 1)
      have i0 : (1 : Int) < (len : Int) := by omega
      go_wp2
      have B3 := store_laid 1 B0.out (m / 65536 % 256) (by unfold be; congr 2 <;> omega) (by omega) (by omega)
      have HB3 := HB.out.setCell (p := ⟨g, o + 1, none⟩) (Nat.le_refl g) (.int .u8 (m / 65536 % 256))
      go_roundw
      case rel => exact ⟨2, rfl, ⟨by omega⟩, ⟨B3⟩, ⟨HB3⟩⟩
      case measure => simp [intOf]
    · have c1 : wr.cell? ⟨g, o + 2, none⟩ = _ := (blk_cell B0.out (o + 2)).trans (row_cell _ (o + 2) (by rw [laid_size]; omega))
      have f1 : wr.frozen? ⟨g, o + 2, none⟩ = false := blk_frozen B0.out (o + 2)
      have i0 : (2 : Int) < (len : Int) := by omega
      go_wp2
      have B3 := store_laid 2 B0.out (m / 256 % 256) (by unfold be; congr 2 <;> omega) (by omega) (by omega)
      have HB3 := HB.out.setCell (p := ⟨g, o + 2, none⟩) (Nat.le_refl g) (.int .u8 (m / 256 % 256))
      go_roundw
      case rel => exact ⟨3, rfl, ⟨by omega⟩, ⟨B3⟩, ⟨HB3⟩⟩
      case measure => simp [intOf]
    · have c1 : wr.cell? ⟨g, o + 3, none⟩ = _ := (blk_cell B0.out (o + 3)).trans (row_cell _ (o + 3) (by rw [laid_size]; omega))
      have f1 : wr.frozen? ⟨g, o + 3, none⟩ = false := blk_frozen B0.out (o + 3)
      have i0 : (3 : Int) < (len : Int) := by omega
      go_wp2
      have B3 := store_laid 3 B0.out (m % 256) (by unfold be; congr 2 <;> omega) (by omega) (by omega)
      have HB3 := HB.out.setCell (p := ⟨g, o + 3, none⟩) (Nat.le_refl g) (.int .u8 (m % 256))
      go_roundw
      case rel => exact ⟨4, rfl, ⟨by omega⟩, ⟨B3⟩, ⟨HB3⟩⟩
      case measure => simp [intOf]
    · clear hk
      go_wp2
      have hm := HM.out
      first | go_end0 | ((try simp only [Exit.inBlock, Exit.then]); refine bodyPost_end (results_none rfl _ _ _) rfl ?_)
      subst hm
      exact ⟨rfl, B0.out, HB.out⟩
theorem zero_calls (w : World) : Calls Try.prog 39 #[] w (Post (.string (noughts 128)) w) := by
  have h43 := z128
  go_enter Try.func39, Try.ntmps39
  go_upto_region 2 with (fail)
  have b0 := heap_alloc_new w (Obj.cells (row (noughts 128)) 102)
  have hB := (Below.refl w.heap.size w).alloc (Nat.le_refl _) (Obj.cells (row (noughts 128)) 102)
  have cv := conv_whole b0 23 5 9 Try.underlying23 Try.underlying5 Try.underlying9 128 128 (noughts_size 128)
  clear h43
  generalize w.alloc (Obj.cells (row (noughts 128)) 102) = W at *
  go_wp2
  go_ret
  exact ⟨rfl, hB⟩
/-- The sector ahead of its sum; with it. -/
def bare (e i : B32) (b : ByteArray) : ByteArray := splice (setB (laid (laid (noughts 128) 0 (be (n32 e)) 4) 4 (be (n32 i)) 4) 9 (UInt8.ofNat b.size)) 12 b
def sector (e i : B32) (b : ByteArray) : ByteArray := laid (bare e i b) 124 (le (n32 (crc ((bare e i b).extract 0 124)))) 4
def packF (e i : B32) (b : ByteArray) : ByteArray × Int := if b.size ≤ 112 then (sector e i b, 0) else (⟨#[]⟩, 1)
set_option maxRecDepth 4096 in
theorem pack_calls (e i : B32) (b : ByteArray) (w : World) : Calls Try.prog 53 #[.agg #[U e, U i, .string b]] w (Post (.tuple #[.string (packF e i b).1, .int .i64 (packF e i b).2]) w) := by
  unfold packF
  by_cases hb : b.size ≤ 112
  · rw [if_pos hb]
    have d0 : decide ((112 : Int) < (b.size : Int)) = false := by rw [decide_eq_false_iff_not]; omega
    go_enter Try.func53, Try.ntmps53
    go_upto_region 1 with (fail)
    have b0 := heap_alloc_new w (Obj.cells #[U e, U i, .string b] 99)
    have hB := (Below.refl w.heap.size w).alloc (Nat.le_refl _) (Obj.cells #[U e, U i, .string b] 99)
    generalize w.alloc (Obj.cells #[U e, U i, .string b] 99) = W at *
    have c2 := blk_cell b0 2
    have B0 := Aside0.mk b0; have HB := Aside0.mk hB; clear b0 hB
    have h43 := z128
    go_upto_region 4 with (fail)
    have e0 := blk_alloc B0.out (Obj.cells (row (noughts 128)) 102)
    have e1 := heap_alloc_new W (Obj.cells (row (noughts 128)) 102)
    have hz : w.heap.size < W.heap.size := blk_lt B0.out
    have hB3 := HB.out.alloc (Nat.le_of_lt hz) (Obj.cells (row (noughts 128)) 102)
    have B02 := Aside0.mk e0; have B12 := Aside0.mk e1; have HB2 := Aside0.mk hB3
    clear B0 HB c2 h43 e0 e1 hB3 d0
    generalize W.alloc (Obj.cells (row (noughts 128)) 102) = w2 at *
    generalize W.heap.size = g at *
    have c0 := blk_cell B02.out 0
    refine start_ (n := 4) (S := fun w' => w'.cell? ⟨w.heap.size, 0, none⟩ = some (U e)) (ds := []) #[false, false, false, false] (by kernel_rfl) rfl rfl c0 (fun hHeld => ?_)
    refine pure_ (i := 0) (N := some 11) (v := ?_) (a' := ?_) #[true, false, false, false] rfl rfl (by kernel_rfl) (fun _ _ _ h => h) (Or.inl ⟨by kernel_rfl, ?_⟩) ?_ ?_
    rotate_left
    · intro w'
      go_simp
      with_reducible rfl
    rotate_left
    · simp only [Act.put, List.setIfInBounds_toArray, List.set_cons_zero, List.set_cons_succ, i64_w, i32_w]
      rfl
    refine pure_ (i := 1) (N := some 12) (v := ?_) (a' := ?_) #[true, true, false, false] rfl rfl (by kernel_rfl) (fun _ _ _ h => h) (Or.inl ⟨by kernel_rfl, ?_⟩) ?_ ?_
    rotate_left
    · intro w'
      go_simp
      with_reducible rfl
    rotate_left
    · simp only [Act.put, List.setIfInBounds_toArray, List.set_cons_zero, List.set_cons_succ, i64_w, i32_w]
      rfl
    refine take_ (i := 2) (N := some 13) (v := ?_) (a' := ?_) #[true, true, true, false] rfl rfl (by kernel_rfl) (fun _ _ _ h => h) (Or.inl ⟨by kernel_rfl, ?_⟩) hHeld ?_ ?_
    rotate_left
    · rintro w' s0_
      go_simp
      with_reducible rfl
    rotate_left
    · simp only [Act.put, List.setIfInBounds_toArray, List.set_cons_zero, List.set_cons_succ, i64_w, i32_w]
      rfl
    refine one_ (i := 3) (N := some 14) #[true, true, true, true] rfl rfl (by kernel_rfl) (by decide) (fun K hK => ?_)
    refine goes_ Try.func58 (by kernel_rfl) rfl #[.slice (some ⟨g, 0, none⟩) 128 128, U e] (by rfl) rfl rfl (by (try simp only [List.map_toArray, List.map_cons, List.map_nil]); first | done | rfl) ?_
    refine (put_calls (noughts 128) 102 0 g 128 128 e w2.drew B12.out (by simp only [laid_size, noughts_size]; omega) (by omega)).mono ?_
    rintro e' w4 ⟨rfl, b4, hb4⟩
    refine ⟨_, rfl, ?_⟩
    have B14 := Aside0.mk b4
    have HB4 := Aside0.mk (HB2.out.drew.trans (hb4.mono (Nat.le_of_lt hz)))
    have B04 := Aside0.mk (show w4.heap[w.heap.size]? = _ from (hb4.block w.heap.size hz).trans B02.out)
    refine hK _ _ ((hb4.cell (p := ⟨w.heap.size, 0, none⟩) hz).trans hHeld) (fun _ => ?_)
    clear hK K hb4 b4
    refine norm_ (a' := ?_) ?_ ?_
    rotate_left
    · show Act.put _ (some 14) _ = _
      simp only [Act.put, List.setIfInBounds_toArray, List.set_cons_zero, List.set_cons_succ, i64_w, i32_w]
      rfl
    refine done_ (by kernel_rfl) ?_
    clear c0 hHeld B02 B12 HB2
    go_upto_region 5 with (fail)
    have c0 := blk_cell B04.out 1
    refine start_ (n := 4) (S := fun w' => w'.cell? ⟨w.heap.size, 1, none⟩ = some (U i)) (ds := []) #[false, false, false, false] (by kernel_rfl) rfl rfl c0 (fun hHeld => ?_)
    refine pure_ (i := 0) (N := some 15) (v := ?_) (a' := ?_) #[true, false, false, false] rfl rfl (by kernel_rfl) (fun _ _ _ h => h) (Or.inl ⟨by kernel_rfl, ?_⟩) ?_ ?_
    rotate_left
    · intro w'
      go_simp
      with_reducible rfl
    rotate_left
    · simp only [Act.put, List.setIfInBounds_toArray, List.set_cons_zero, List.set_cons_succ, i64_w, i32_w]
      rfl
    refine pure_ (i := 1) (N := some 16) (v := ?_) (a' := ?_) #[true, true, false, false] rfl rfl (by kernel_rfl) (fun _ _ _ h => h) (Or.inl ⟨by kernel_rfl, ?_⟩) ?_ ?_
    rotate_left
    · intro w'
      go_simp
      with_reducible rfl
    rotate_left
    · simp only [Act.put, List.setIfInBounds_toArray, List.set_cons_zero, List.set_cons_succ, i64_w, i32_w]
      rfl
    refine take_ (i := 2) (N := some 17) (v := ?_) (a' := ?_) #[true, true, true, false] rfl rfl (by kernel_rfl) (fun _ _ _ h => h) (Or.inl ⟨by kernel_rfl, ?_⟩) hHeld ?_ ?_
    rotate_left
    · rintro w' s0_
      go_simp
      with_reducible rfl
    rotate_left
    · simp only [Act.put, List.setIfInBounds_toArray, List.set_cons_zero, List.set_cons_succ, i64_w, i32_w]
      rfl
    refine one_ (i := 3) (N := some 18) #[true, true, true, true] rfl rfl (by kernel_rfl) (by decide) (fun K hK => ?_)
    refine goes_ Try.func58 (by kernel_rfl) rfl #[.slice (some ⟨g, 4, none⟩) 124 124, U i] (by rfl) rfl rfl (by (try simp only [List.map_toArray, List.map_cons, List.map_nil]); first | done | rfl) ?_
    refine (put_calls (laid (noughts 128) 0 (be (n32 e)) 4) 102 4 g 124 124 i w4.drew B14.out (by simp only [laid_size, noughts_size]; omega) (by omega)).mono ?_
    rintro e' w5 ⟨rfl, b5, hb5⟩
    refine ⟨_, rfl, ?_⟩
    have B15 := Aside0.mk b5
    have HB5 := Aside0.mk (HB4.out.drew.trans (hb5.mono (Nat.le_of_lt hz)))
    have B05 := Aside0.mk (show w5.heap[w.heap.size]? = _ from (hb5.block w.heap.size hz).trans B04.out)
    refine hK _ _ ((hb5.cell (p := ⟨w.heap.size, 1, none⟩) hz).trans hHeld) (fun _ => ?_)
    clear hK K hb5 b5
    refine norm_ (a' := ?_) ?_ ?_
    rotate_left
    · show Act.put _ (some 18) _ = _
      simp only [Act.put, List.setIfInBounds_toArray, List.set_cons_zero, List.set_cons_succ, i64_w, i32_w]
      rfl
    refine done_ (by kernel_rfl) ?_
    clear c0 hHeld B04 B14 HB4
    have hsz : (laid (laid (noughts 128) 0 (be (n32 e)) 4) 4 (be (n32 i)) 4).size = 128 := by rw [laid_size, laid_size, noughts_size]
    have HBR := Aside0.mk (show bare e i b = splice (setB (laid (laid (noughts 128) 0 (be (n32 e)) 4) 4 (be (n32 i)) 4) 9 (UInt8.ofNat b.size)) 12 b from rfl)
    have HSE := Aside0.mk (show sector e i b = laid (bare e i b) 124 (le (n32 (crc ((bare e i b).extract 0 124)))) 4 from rfl)
    generalize laid (laid (noughts 128) 0 (be (n32 e)) 4) 4 (be (n32 i)) 4 = s2 at *
    have c2 := blk_cell B05.out 2
    have c9 := (blk_cell B15.out 9).trans (row_cell _ 9 (by omega))
    have f9 := blk_frozen B15.out 9
    go_upto_region 7 with (fail)
    clear c2 c9 f9
    have B6 := blk_set B15.out 9 (.int .u8 (b.size : Int))
    rw [row_setB _ _ _ (by omega) (by omega), Int.toNat_natCast] at B6
    have hs3 : (setB s2 9 (UInt8.ofNat b.size)).size = 128 := by rw [setB_size, hsz]
    have B06 := Aside0.mk (blk_far B05.out (p := ⟨g, 9, none⟩) (by simp; omega) (.int .u8 (b.size : Int)))
    have HB6 := Aside0.mk (HB5.out.setCell (p := ⟨g, 9, none⟩) (by simp; omega) (.int .u8 (b.size : Int)))
    generalize w5.setCell ⟨g, 9, none⟩ (.int .u8 (b.size : Int)) = w6 at *
    generalize setB s2 9 (UInt8.ofNat b.size) = s3 at *
    have c2 := blk_cell B06.out 2
    have cp := copy_row (w := w6.drew) B6 23 9 3 5 Try.underlying23 rfl 12 116 116 b (by omega) (by omega)
    have g0 := set_row (w := w6.drew) B6 (row (splice s3 12 b))
    have hB7 := below_setRow (HB6.out.drew) (g := g) (by omega) (row (splice s3 12 b))
    have hs4 : (splice s3 12 b).size = 128 := by rw [splice_size _ _ _ (by omega), hs3]
    rw [← HBR.out] at g0 hB7 hs4 cp
    have cv := conv_row g0 23 5 9 Try.underlying23 Try.underlying5 Try.underlying9 0 124 128 (by omega)
    have G0 := Aside0.mk g0; have HB7 := Aside0.mk hB7; have CV := Aside0.mk cv
    clear g0 hB7 cv B6 B05 HB5 B15 hsz
    go_region
    generalize w6.drew.setRow g (row (bare e i b)) = w7 at *
    have cv := CV.out
    clear cp c2 B06 HB6
    rw [Nat.zero_add] at cv
    have hs5 : ((bare e i b).extract 0 124).size < 9223372036854775807 := by
      rw [ByteArray.size_extract]; omega
    go_upto_region 9 with (go_at_call 59; refine (sum_calls _ hs5 _).mono ?_; rintro e' w8 ⟨rfl, hb8⟩)
    have B8 := Aside0.mk (blk_below G0.out hb8)
    have HB8 := Aside0.mk (below_trans HB7.out hb8)
    have hn := n32_lt (crc ((bare e i b).extract 0 124))
    clear CV cv G0 HB7 hb8 HBR hs5
    unfold U
    generalize n32 (crc ((bare e i b).extract 0 124)) = m at *
    generalize bare e i b = sB at *
    go_upto_region 10 with (fail)
    go_loopw [6, 31] (fun _ i wr => ∃ k : Nat, i = .int .i64 k ∧ Aside0 (k ≤ 4) ∧ Aside0 (wr.heap[g]? = some (.cells (row (laid sB 124 (le m) k)) 102 (0, 0))) ∧ Aside0 (Below w.heap.size w wr)) (fun _ i _ => 4 - (intOf i).toNat)
    case atStart => exact ⟨0, rfl, ⟨by omega⟩, B8, HB8⟩
    case round =>
      clear B8 HB8
      obtain ⟨k, rfl, hk, B0, HB⟩ := hrel
      rcases (show k = 0 ∨ k = 1 ∨ k = 2 ∨ k = 3 ∨ k = 4 by have := hk.out; omega) with rfl | rfl | rfl | rfl | rfl
      · have c1 : wr.cell? ⟨g, 124, none⟩ = _ := (blk_cell B0.out (124 + 0)).trans (row_cell _ (124 + 0) (by rw [laid_size]; omega))
        have f1 : wr.frozen? ⟨g, 124, none⟩ = false := blk_frozen B0.out (124 + 0)
        go_wp2
        have B3 := store_laid 0 B0.out (m % 256) (by unfold le; congr 2 <;> omega) (by omega) (by omega)
        have HB3 := HB.out.setCell (p := ⟨g, 124 + 0, none⟩) (Nat.le_of_lt hz) (.int .u8 (m % 256))
        go_roundw
        case rel => exact ⟨1, rfl, ⟨by omega⟩, ⟨B3⟩, ⟨HB3⟩⟩
        case measure => simp [intOf]
      · have c1 : wr.cell? ⟨g, 125, none⟩ = _ := (blk_cell B0.out (124 + 1)).trans (row_cell _ (124 + 1) (by rw [laid_size]; omega))
        have f1 : wr.frozen? ⟨g, 125, none⟩ = false := blk_frozen B0.out (124 + 1)
        go_wp2
        have B3 := store_laid 1 B0.out (m / 256 % 256) (by unfold le; congr 2 <;> omega) (by omega) (by omega)
        have HB3 := HB.out.setCell (p := ⟨g, 124 + 1, none⟩) (Nat.le_of_lt hz) (.int .u8 (m / 256 % 256))
        go_roundw
        case rel => exact ⟨2, rfl, ⟨by omega⟩, ⟨B3⟩, ⟨HB3⟩⟩
        case measure => simp [intOf]
      · have c1 : wr.cell? ⟨g, 126, none⟩ = _ := (blk_cell B0.out (124 + 2)).trans (row_cell _ (124 + 2) (by rw [laid_size]; omega))
        have f1 : wr.frozen? ⟨g, 126, none⟩ = false := blk_frozen B0.out (124 + 2)
        go_wp2
        have B3 := store_laid 2 B0.out (m / 65536 % 256) (by unfold le; congr 2 <;> omega) (by omega) (by omega)
        have HB3 := HB.out.setCell (p := ⟨g, 124 + 2, none⟩) (Nat.le_of_lt hz) (.int .u8 (m / 65536 % 256))
        go_roundw
        case rel => exact ⟨3, rfl, ⟨by omega⟩, ⟨B3⟩, ⟨HB3⟩⟩
        case measure => simp [intOf]
      · have c1 : wr.cell? ⟨g, 127, none⟩ = _ := (blk_cell B0.out (124 + 3)).trans (row_cell _ (124 + 3) (by rw [laid_size]; omega))
        have f1 : wr.frozen? ⟨g, 127, none⟩ = false := blk_frozen B0.out (124 + 3)
        go_wp2
        have B3 := store_laid 3 B0.out (m / 16777216) (by unfold le; congr 2 <;> omega) (by omega) (by omega)
        have HB3 := HB.out.setCell (p := ⟨g, 124 + 3, none⟩) (Nat.le_of_lt hz) (.int .u8 (m / 16777216))
        go_roundw
        case rel => exact ⟨4, rfl, ⟨by omega⟩, ⟨B3⟩, ⟨HB3⟩⟩
        case measure => simp [intOf]
      · clear hk
        have cv := conv_whole B0.out 23 5 9 Try.underlying23 Try.underlying5 Try.underlying9 128 128 (by rw [laid_size]; exact hs4)
        go_wp2
        go_ret2
        rw [HSE.out]
        exact ⟨rfl, HB.out⟩
  · rw [if_neg hb]
    have d0 : decide ((112 : Int) < (b.size : Int)) = true := by rw [decide_eq_true_iff]; omega
    go_enter Try.func53, Try.ntmps53
    go_wp2
    go_ret2
    exact ⟨rfl, (Below.refl w.heap.size w).alloc (Nat.le_refl _) _⟩
end Go.Proofs.Ytbdfdfahpdilpaa.Slab
