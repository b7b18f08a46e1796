import Derived.Test.YtbdfdfahpdilpaaM2
import Derived.Test.YtbdfdfahpdilpaaZA
import Derived.Test.YtbdfdfahpdilpaaD8
/-! Layer 12: master: Write. -/
namespace Go.Proofs.Ytbdfdfahpdilpaa.X12
open Go Go.RowKit Go.ChangeMaps Go.Proofs.Ytbdfdfahpdilpaa.Arr Go.Proofs.Ytbdfdfahpdilpaa.Mp Go.Proofs.Ytbdfdfahpdilpaa.Ow Go.Proofs.Ytbdfdfahpdilpaa.Dk Go.Proofs.Ytbdfdfahpdilpaa.Slab Go.Proofs.YtbdfdfahpdilpaaW.PrintWords Go.Proofs.YtbdfdfahpdilpaaW.PrintLast Go.Proofs.YtbdfdfahpdilpaaW.PrintMore
set_option linter.unusedVariables false
set_option linter.unusedSimpArgs false
def bv (c l : Int) (i : Nat) : UInt8 := if i < 4 then be c i else be l (i - 4)
def encM (c l : Int) : ByteArray := ⟨((List.range 8).map (bv c l)).toArray⟩
theorem encM_size (c l : Int) : (encM c l).size = 8 := by simp [encM, ByteArray.size]
def secM (t c l : Int) : ByteArray := (packI t 0 (encM c l)).1
def spotM (base t : Int) : Int := base + t % 2
def writeME (d : DS) (base t c l : Int) : Int := if bothE d base ≠ 0 then bothE d base else if mayM c l = false then 1 else if writeE d (spotM base t) (secM t c l) ≠ 0 then writeE d (spotM base t) (secM t c l) else syncE (writeD d (spotM base t) (secM t c l))
def writeMD (d : DS) (base t c l : Int) : DS := if bothE d base ≠ 0 then d else if mayM c l = false then d else if writeE d (spotM base t) (secM t c l) ≠ 0 then writeD d (spotM base t) (secM t c l) else syncD (writeD d (spotM base t) (secM t c l))
theorem be_val (a : Int) (i : Nat) (h : 0 ≤ a) : ((be a i).toNat : Int) = a / 2 ^ (24 - 8 * i) % 256 := by
  unfold be
  have h1 : 0 ≤ a / 2 ^ (24 - 8 * i) % 256 := Int.emod_nonneg _ (by decide)
  have h2 : a / 2 ^ (24 - 8 * i) % 256 < 256 := Int.emod_lt_of_pos _ (by decide)
  rw [UInt8.toNat_ofNat']
  omega
theorem may_bounds {c l : Int} (h : mayM c l = true) : (0 ≤ c ∧ c ≤ 2147483647) ∧ 1 ≤ l ∧ l ≤ 2147483647 := by
  unfold mayM at h
  simp only [Bool.and_eq_true, decide_eq_true_eq] at h
  exact ⟨⟨h.1.1.1, h.1.1.2⟩, h.1.2, h.2⟩
/-- The array behind k rounds. -/
def wA (c l : Int) (k : Nat) : Nat → Value := fun i => .int .u8 (if i % 4 < k then ((bv c l i).toNat : Int) else 0)
theorem wA_row (c l : Int) : arrN 8 (wA c l 4) = row (encM c l) := by
  apply Array.toList_inj.1
  have h : ∀ i, wA c l 4 i = .int .u8 ((bv c l i).toNat : Int) := fun i => by unfold wA; rw [if_pos (Nat.mod_lt _ (by decide))]
  simp [arrN, row, Lib.byteCells, encM, h]
theorem arrN_congr {n : Nat} {f f' : Nat → Value} (h : ∀ i, i < n → f i = f' i) : arrN n f = arrN n f' := by
  unfold arrN
  rw [List.map_congr_left fun i hi => h i (List.mem_range.1 hi)]
theorem bv_c (c l : Int) (k : Nat) (hk : k < 4) (h : 0 ≤ c ∧ c ≤ 2147483647) : ((bv c l k).toNat : Int) = c / 2 ^ (24 - 8 * k) % 256 := by
  unfold bv
  rw [if_pos hk]
  exact be_val c k h.1
theorem bv_l (c l : Int) (k : Nat) (hk : k < 4) (h : 1 ≤ l ∧ l ≤ 2147483647) : ((bv c l (4 + k)).toNat : Int) = l / 2 ^ (24 - 8 * k) % 256 := by
  unfold bv
  rw [if_neg (by omega), show 4 + k - 4 = k by omega]
  exact be_val l k (by omega)
theorem wA_step (c l : Int) (k : Nat) (hk : k < 4) {vc vl : Int} (h1 : vc = ((bv c l k).toNat : Int)) (h2 : vl = ((bv c l (4 + k)).toNat : Int)) : arrN 8 (fun j => if j = 4 + k then .int .u8 vl else (fun j => if j = k then .int .u8 vc else wA c l k j) j) = arrN 8 (wA c l (k + 1)) := by
  refine arrN_congr fun i hi => ?_
  subst h1 h2
  unfold wA
  by_cases e1 : i = 4 + k
  · subst e1
    rw [if_pos rfl, if_pos (by omega)]
  · rw [if_neg e1]
    show (if i = k then _ else _) = _
    by_cases e2 : i = k
    · subst e2
      rw [if_pos rfl, if_pos (by omega)]
    · rw [if_neg e2]
      by_cases h : i % 4 < k
      · rw [if_pos h, if_pos (by omega)]
      · rw [if_neg h, if_neg (by omega)]
set_option maxHeartbeats 8000000 in
set_option maxRecDepth 20000 in
theorem mwrite_calls (d : DS) (g : Nat) (base t c l : Int) (S : Nat → Prop) (w : World) (hS : Top S w) (h : DK w S g d) {N : Nat} (ho : OkN N d) (hN : N < 1000000) (ht : 0 ≤ t ∧ t < 4294967296) : Calls Try.prog 35 #[.pointer (some ⟨g, 0, none⟩), .int .i64 base, .int .u32 t, .agg #[.int .i64 c, .int .i64 l]] w fun e w' => e = .returned (.int .i64 (writeME d base t c l)) ∧ DK w' S g (writeMD d base t c l) ∧ FS S w w' := by
  have HK := Aside0.mk h; have HO := Aside0.mk ho; have HS := Aside0.mk hS; have HT0 := Aside0.mk ht; have HN := Aside0.mk hN; clear h ho hS ht hN
  by_cases hB : bothE d base = 0
  · have hb0 : (bothE d base == 0) = true := by simp [hB]
    cases hm : mayM c l with
    | false =>
      have e1 : writeME d base t c l = 1 := by unfold writeME; rw [if_neg (by simp [hB]), if_pos hm]
      have e2 : writeMD d base t c l = d := by unfold writeMD; rw [if_neg (by simp [hB]), if_pos hm]
      rw [e1, e2]
      clear e1 e2 hB
      go_enter Try.func35, Try.ntmps35
      go_upto_region 1 with (fail)
      have hta := heap_alloc_new w (.cells #[.int .i64 c, .int .i64 l] 61)
      have hbb := (Below.refl w.heap.size w).alloc (Nat.le_refl _) (.cells #[.int .i64 c, .int .i64 l] 61)
      have hk1 := HK.out.below hbb
      clear HK
      have HK := Aside0.mk hk1; have F := Aside0.mk ((FS.refl S w).below hbb); have HB := Aside0.mk hta
      clear hk1 hbb hta
      generalize w.alloc (.cells #[.int .i64 c, .int .i64 l] 61) = W at *
      go_wp2_with (first | (go_at_call 50; (with_reducible refine (mthere_calls _ _ _ _ _ HK.out HO.out.ok).mono ?_); rintro e w1 ⟨rfl, hb1⟩; have F_n := Aside0.mk (F.out.below hb1); have HB_n := Aside0.mk (blk_below HB.out hb1); have HK_n := Aside0.mk (HK.out.below hb1); clear F HB HK hb1; have F := F_n; have HB := HB_n; have HK := HK_n; clear F_n HB_n HK_n; have b0 : w1.cell? ⟨w.heap.size, 0, none⟩ = some (.int .i64 c) := blk_cell HB.out 0; have b1 : w1.cell? ⟨w.heap.size, 1, none⟩ = some (.int .i64 l) := blk_cell HB.out 1) | (go_at_call 52; (with_reducible refine (may_calls _ _ _).mono ?_); rintro e w1 ⟨rfl, hb1⟩; clear b0 b1; have F_n := Aside0.mk (F.out.below hb1); have HB_n := Aside0.mk (blk_below HB.out hb1); have HK_n := Aside0.mk (HK.out.below hb1); clear F HB HK hb1; have F := F_n; have HB := HB_n; have HK := HK_n; clear F_n HB_n HK_n; have b0 : w1.cell? ⟨w.heap.size, 0, none⟩ = some (.int .i64 c) := blk_cell HB.out 0; have b1 : w1.cell? ⟨w.heap.size, 1, none⟩ = some (.int .i64 l) := blk_cell HB.out 1))
      go_ret
      exact ⟨rfl, HK.out, F.out⟩
    | true =>
      have e1 : writeME d base t c l = if writeE d (spotM base t) (secM t c l) ≠ 0 then writeE d (spotM base t) (secM t c l) else syncE (writeD d (spotM base t) (secM t c l)) := by unfold writeME; rw [if_neg (by simp [hB]), if_neg (by simp [hm])]
      have e2 : writeMD d base t c l = if writeE d (spotM base t) (secM t c l) ≠ 0 then writeD d (spotM base t) (secM t c l) else syncD (writeD d (spotM base t) (secM t c l)) := by unfold writeMD; rw [if_neg (by simp [hB]), if_neg (by simp [hm])]
      rw [e1, e2]
      clear e1 e2
      obtain ⟨E0, hE0⟩ : ∃ E, E = if writeE d (spotM base t) (secM t c l) ≠ 0 then writeE d (spotM base t) (secM t c l) else syncE (writeD d (spotM base t) (secM t c l)) := ⟨_, rfl⟩
      obtain ⟨D0, hD0⟩ : ∃ D, D = if writeE d (spotM base t) (secM t c l) ≠ 0 then writeD d (spotM base t) (secM t c l) else syncD (writeD d (spotM base t) (secM t c l)) := ⟨_, rfl⟩
      rw [← hE0, ← hD0]
      have HE0 := Aside0.mk hE0; have HD0 := Aside0.mk hD0; clear hE0 hD0
      have HML := Aside0.mk (may_bounds hm)
      have HBB := Aside0.mk (show 0 ≤ base ∧ base ≤ (d.safe.length : Int) - 2 by
        unfold bothE at hB
        by_cases hc : base < 0 ∨ (d.safe.length : Int) - 2 < base
        · rw [if_pos hc] at hB; cases hB
        · omega)
      clear hB
      go_enter Try.func35, Try.ntmps35
      go_upto_region 1 with (fail)
      have hta := heap_alloc_new w (.cells #[.int .i64 c, .int .i64 l] 61)
      have hbb := (Below.refl w.heap.size w).alloc (Nat.le_refl _) (.cells #[.int .i64 c, .int .i64 l] 61)
      have hk1 := HK.out.below hbb
      clear HK
      have HK := Aside0.mk hk1; have F := Aside0.mk ((FS.refl S w).below hbb); have HB := Aside0.mk hta
      clear hk1 hbb hta
      generalize w.alloc (.cells #[.int .i64 c, .int .i64 l] 61) = W at *
      go_upto_region 8 with (first | (go_at_call 50; (with_reducible refine (mthere_calls _ _ _ _ _ HK.out HO.out.ok).mono ?_); rintro e w1 ⟨rfl, hb1⟩; have F_n := Aside0.mk (F.out.below hb1); have HB_n := Aside0.mk (blk_below HB.out hb1); have HK_n := Aside0.mk (HK.out.below hb1); clear F HB HK hb1; have F := F_n; have HB := HB_n; have HK := HK_n; clear F_n HB_n HK_n; have b0 : w1.cell? ⟨w.heap.size, 0, none⟩ = some (.int .i64 c) := blk_cell HB.out 0; have b1 : w1.cell? ⟨w.heap.size, 1, none⟩ = some (.int .i64 l) := blk_cell HB.out 1) | (go_at_call 52; (with_reducible refine (may_calls _ _ _).mono ?_); rintro e w1 ⟨rfl, hb1⟩; clear b0 b1; have F_n := Aside0.mk (F.out.below hb1); have HB_n := Aside0.mk (blk_below HB.out hb1); have HK_n := Aside0.mk (HK.out.below hb1); clear F HB HK hb1; have F := F_n; have HB := HB_n; have HK := HK_n; clear F_n HB_n HK_n; have b0 : w1.cell? ⟨w.heap.size, 0, none⟩ = some (.int .i64 c) := blk_cell HB.out 0; have b1 : w1.cell? ⟨w.heap.size, 1, none⟩ = some (.int .i64 l) := blk_cell HB.out 1))
      have hbb := (Below.refl w1.heap.size w1).alloc (Nat.le_refl _) (.cells #[.int .u8 0, .int .u8 0, .int .u8 0, .int .u8 0, .int .u8 0, .int .u8 0, .int .u8 0, .int .u8 0] 96)
      have F_n := Aside0.mk (F.out.below hbb); have HB_n := Aside0.mk (blk_below HB.out hbb); have HK_n := Aside0.mk (HK.out.below hbb); have HA := Aside0.mk (show (w1.alloc (.cells #[.int .u8 0, .int .u8 0, .int .u8 0, .int .u8 0, .int .u8 0, .int .u8 0, .int .u8 0, .int .u8 0] 96)).heap[w1.heap.size]? = some (.cells (arrN 8 (wA c l 0)) 96 (0, 0)) from heap_alloc_new w1 (.cells #[.int .u8 0, .int .u8 0, .int .u8 0, .int .u8 0, .int .u8 0, .int .u8 0, .int .u8 0, .int .u8 0] 96)); have HGA := Aside0.mk (show w.heap.size ≤ w1.heap.size from F.out.size)
      clear F HB HK b0 b1 hbb
      have F := F_n; have HB := HB_n; have HK := HK_n; clear F_n HB_n HK_n
      generalize w1.alloc (.cells #[.int .u8 0, .int .u8 0, .int .u8 0, .int .u8 0, .int .u8 0, .int .u8 0, .int .u8 0, .int .u8 0] 96) = X at *
      generalize w1.heap.size = ab at *
      have HNE := Aside0.mk (show w.heap.size ≠ ab from Dk.blk_ne HB.out HA.out (by decide))
      go_loopw [23] (fun v wr => ∃ k : Nat, v = .int .i64 k ∧ Aside0 (k ≤ 4) ∧ Aside0 (wr.heap[ab]? = some (.cells (arrN 8 (wA c l k)) 96 (0, 0))) ∧ Aside0 (wr.heap[w.heap.size]? = some (.cells #[.int .i64 c, .int .i64 l] 61 (0, 0))) ∧ Aside0 (DK wr S g d) ∧ Aside0 (FS S w wr)) (fun v _ => 4 - (intOf v).toNat)
      case atStart => exact ⟨0, rfl, ⟨by omega⟩, HA, HB, HK, F⟩
      case round =>
        clear HA HB HK F
        obtain ⟨k, rfl, K, HA, HB, HK, F⟩ := hrel
        have b0 : wr.cell? ⟨w.heap.size, 0, none⟩ = some (.int .i64 c) := blk_cell HB.out 0
        have b1 : wr.cell? ⟨w.heap.size, 1, none⟩ = some (.int .i64 l) := blk_cell HB.out 1
        rcases (show k = 0 ∨ k = 1 ∨ k = 2 ∨ k = 3 ∨ k = 4 by have := K.out; omega) with rfl | rfl | rfl | rfl | rfl
        · skip
          have z0 : wr.cell? ⟨ab, 0, none⟩ = some (.int .u8 0) := blk_cell HA.out 0
          have f0 := blk_frozen HA.out 0
          go_upto_region 11 with (fail)
          have HA2 := Aside0.mk (set_arr HA.out 0 (.int .u8 (c / 16777216 % 256))); have HB2 := Aside0.mk (blk_stored HB.out HNE.out 0 (.int .u8 (c / 16777216 % 256))); have HK2 := Aside0.mk (dk_set HK.out HA.out (by decide) 0 (.int .u8 (c / 16777216 % 256))); have F2 := Aside0.mk (F.out.setCell (p := ⟨ab, 0, none⟩) (.inr HGA.out) (.int .u8 (c / 16777216 % 256)))
          clear HA HB HK F b0 b1 z0 f0
          generalize wr.setCell ⟨ab, 0, none⟩ (.int .u8 (c / 16777216 % 256)) = Y at *
          have b1 : Y.cell? ⟨w.heap.size, 1, none⟩ = some (.int .i64 l) := blk_cell HB2.out 1
          have z1 : Y.cell? ⟨ab, 4, none⟩ = some (.int .u8 0) := blk_cell HA2.out 4
          have f1 := blk_frozen HA2.out 4
          go_wp2
          have HA3 := set_arr HA2.out 4 (.int .u8 (l / 16777216 % 256))
          replace HA3 := (congrArg (fun a => _ = some (Obj.cells a 96 (0, 0))) (wA_step c l 0 (by decide) (vc := c / 16777216 % 256) (vl := l / 16777216 % 256) (by rw [bv_c c l 0 (by decide) HML.out.1]; simp) (by rw [bv_l c l 0 (by decide) HML.out.2]; simp))).mp HA3
          have HA4 := Aside0.mk HA3; have HB3 := Aside0.mk (blk_stored HB2.out HNE.out 4 (.int .u8 (l / 16777216 % 256))); have HK3 := Aside0.mk (dk_set HK2.out HA2.out (by decide) 4 (.int .u8 (l / 16777216 % 256))); have F3 := Aside0.mk (F2.out.setCell (p := ⟨ab, 4, none⟩) (.inr HGA.out) (.int .u8 (l / 16777216 % 256)))
          clear HA3
          go_roundw
          case rel => exact ⟨0 + 1, rfl, ⟨by decide⟩, HA4, HB3, HK3, F3⟩
          case measure => simp [intOf]
        · skip
          have z0 : wr.cell? ⟨ab, 1, none⟩ = some (.int .u8 0) := blk_cell HA.out 1
          have f0 := blk_frozen HA.out 1
          go_upto_region 11 with (fail)
          have HA2 := Aside0.mk (set_arr HA.out 1 (.int .u8 (c / 65536 % 256))); have HB2 := Aside0.mk (blk_stored HB.out HNE.out 1 (.int .u8 (c / 65536 % 256))); have HK2 := Aside0.mk (dk_set HK.out HA.out (by decide) 1 (.int .u8 (c / 65536 % 256))); have F2 := Aside0.mk (F.out.setCell (p := ⟨ab, 1, none⟩) (.inr HGA.out) (.int .u8 (c / 65536 % 256)))
          clear HA HB HK F b0 b1 z0 f0
          generalize wr.setCell ⟨ab, 1, none⟩ (.int .u8 (c / 65536 % 256)) = Y at *
          have b1 : Y.cell? ⟨w.heap.size, 1, none⟩ = some (.int .i64 l) := blk_cell HB2.out 1
          have z1 : Y.cell? ⟨ab, 5, none⟩ = some (.int .u8 0) := blk_cell HA2.out 5
          have f1 := blk_frozen HA2.out 5
          go_wp2
          have HA3 := set_arr HA2.out 5 (.int .u8 (l / 65536 % 256))
          replace HA3 := (congrArg (fun a => _ = some (Obj.cells a 96 (0, 0))) (wA_step c l 1 (by decide) (vc := c / 65536 % 256) (vl := l / 65536 % 256) (by rw [bv_c c l 1 (by decide) HML.out.1]; simp) (by rw [bv_l c l 1 (by decide) HML.out.2]; simp))).mp HA3
          have HA4 := Aside0.mk HA3; have HB3 := Aside0.mk (blk_stored HB2.out HNE.out 5 (.int .u8 (l / 65536 % 256))); have HK3 := Aside0.mk (dk_set HK2.out HA2.out (by decide) 5 (.int .u8 (l / 65536 % 256))); have F3 := Aside0.mk (F2.out.setCell (p := ⟨ab, 5, none⟩) (.inr HGA.out) (.int .u8 (l / 65536 % 256)))
          clear HA3
          go_roundw
          case rel => exact ⟨1 + 1, rfl, ⟨by decide⟩, HA4, HB3, HK3, F3⟩
          case measure => simp [intOf]
        · skip
          have z0 : wr.cell? ⟨ab, 2, none⟩ = some (.int .u8 0) := blk_cell HA.out 2
          have f0 := blk_frozen HA.out 2
          go_upto_region 11 with (fail)
          have HA2 := Aside0.mk (set_arr HA.out 2 (.int .u8 (c / 256 % 256))); have HB2 := Aside0.mk (blk_stored HB.out HNE.out 2 (.int .u8 (c / 256 % 256))); have HK2 := Aside0.mk (dk_set HK.out HA.out (by decide) 2 (.int .u8 (c / 256 % 256))); have F2 := Aside0.mk (F.out.setCell (p := ⟨ab, 2, none⟩) (.inr HGA.out) (.int .u8 (c / 256 % 256)))
          clear HA HB HK F b0 b1 z0 f0
          generalize wr.setCell ⟨ab, 2, none⟩ (.int .u8 (c / 256 % 256)) = Y at *
          have b1 : Y.cell? ⟨w.heap.size, 1, none⟩ = some (.int .i64 l) := blk_cell HB2.out 1
          have z1 : Y.cell? ⟨ab, 6, none⟩ = some (.int .u8 0) := blk_cell HA2.out 6
          have f1 := blk_frozen HA2.out 6
          go_wp2
          have HA3 := set_arr HA2.out 6 (.int .u8 (l / 256 % 256))
          replace HA3 := (congrArg (fun a => _ = some (Obj.cells a 96 (0, 0))) (wA_step c l 2 (by decide) (vc := c / 256 % 256) (vl := l / 256 % 256) (by rw [bv_c c l 2 (by decide) HML.out.1]; simp) (by rw [bv_l c l 2 (by decide) HML.out.2]; simp))).mp HA3
          have HA4 := Aside0.mk HA3; have HB3 := Aside0.mk (blk_stored HB2.out HNE.out 6 (.int .u8 (l / 256 % 256))); have HK3 := Aside0.mk (dk_set HK2.out HA2.out (by decide) 6 (.int .u8 (l / 256 % 256))); have F3 := Aside0.mk (F2.out.setCell (p := ⟨ab, 6, none⟩) (.inr HGA.out) (.int .u8 (l / 256 % 256)))
          clear HA3
          go_roundw
          case rel => exact ⟨2 + 1, rfl, ⟨by decide⟩, HA4, HB3, HK3, F3⟩
          case measure => simp [intOf]
        · skip
          have z0 : wr.cell? ⟨ab, 3, none⟩ = some (.int .u8 0) := blk_cell HA.out 3
          have f0 := blk_frozen HA.out 3
          go_upto_region 11 with (fail)
          have HA2 := Aside0.mk (set_arr HA.out 3 (.int .u8 (c % 256))); have HB2 := Aside0.mk (blk_stored HB.out HNE.out 3 (.int .u8 (c % 256))); have HK2 := Aside0.mk (dk_set HK.out HA.out (by decide) 3 (.int .u8 (c % 256))); have F2 := Aside0.mk (F.out.setCell (p := ⟨ab, 3, none⟩) (.inr HGA.out) (.int .u8 (c % 256)))
          clear HA HB HK F b0 b1 z0 f0
          generalize wr.setCell ⟨ab, 3, none⟩ (.int .u8 (c % 256)) = Y at *
          have b1 : Y.cell? ⟨w.heap.size, 1, none⟩ = some (.int .i64 l) := blk_cell HB2.out 1
          have z1 : Y.cell? ⟨ab, 7, none⟩ = some (.int .u8 0) := blk_cell HA2.out 7
          have f1 := blk_frozen HA2.out 7
          go_wp2
          have HA3 := set_arr HA2.out 7 (.int .u8 (l % 256))
          replace HA3 := (congrArg (fun a => _ = some (Obj.cells a 96 (0, 0))) (wA_step c l 3 (by decide) (vc := c % 256) (vl := l % 256) (by rw [bv_c c l 3 (by decide) HML.out.1]; simp) (by rw [bv_l c l 3 (by decide) HML.out.2]; simp))).mp HA3
          have HA4 := Aside0.mk HA3; have HB3 := Aside0.mk (blk_stored HB2.out HNE.out 7 (.int .u8 (l % 256))); have HK3 := Aside0.mk (dk_set HK2.out HA2.out (by decide) 7 (.int .u8 (l % 256))); have F3 := Aside0.mk (F2.out.setCell (p := ⟨ab, 7, none⟩) (.inr HGA.out) (.int .u8 (l % 256)))
          clear HA3
          go_roundw
          case rel => exact ⟨3 + 1, rfl, ⟨by decide⟩, HA4, HB3, HK3, F3⟩
          case measure => simp [intOf]
        · clear b0 b1
          have hb := HA.out
          rw [wA_row] at hb
          have hconv := conv_whole (P := Try.prog) hb 23 5 9 (by kernel_rfl) (by kernel_rfl) (by kernel_rfl) 8 8 (encM_size c l)
          have hp2 : (packI t 0 (encM c l)).2 = 0 := (packI_bl t 0 (encM c l) HT0.out (by decide) (by rw [encM_size]; decide)).2
          have hpk : ∀ w, Calls Try.prog 53 #[.agg #[.int .u32 t, .int .u32 0, .string (encM c l)]] w fun f w' => f = .returned (.tuple #[.string (secM t c l), .int .i64 0]) ∧ Below w.heap.size w w' := fun w => by
            have := pack_calls t 0 (encM c l) HT0.out (by decide) w
            rw [hp2] at this
            exact this
          clear hb hp2
          have HPK := Aside0.mk hpk; clear hpk
          go_upto_region 15 with (go_at_call 53; (with_reducible refine (HPK.out _).mono ?_); rintro e w1 ⟨rfl, hb1⟩; have F_n := Aside0.mk (F.out.below hb1); have HK_n := Aside0.mk (HK.out.below hb1); clear F HA HB HK hb1 hconv; have F := F_n; have HK := HK_n; clear F_n HK_n)
          have hsp : wrap64 (base + wrap64 (t.tmod 2)) = spotM base t := by
            have h1 := HBB.out
            have h2 := HO.out.ok.2.2.2.1
            have h3 := HT0.out
            unfold spotM
            rw [Int.tmod_eq_emod_of_nonneg h3.1]
            unfold wrap64; omega
          by_cases hw : writeE d (spotM base t) (secM t c l) = 0
          · have hwe : (writeE d (spotM base t) (secM t c l) == 0) = true := by simp [hw]
            have HWE := Aside0.mk hw; clear hw
            go_upto_region 16 with (go_at_call 16; (with_reducible refine (write_calls _ _ _ _ _ _ (HS.out.next F.out.size) HK.out HO.out.ok).mono ?_); rintro e w1 ⟨rfl, hk1, hf1⟩; have HK_n := Aside0.mk hk1; have F_n := Aside0.mk (F.out.trans hf1); have HO_n := Aside0.mk (okOf hk1 (ok_write HO.out HN.out)); clear HK F HO hk1 hf1; have HK := HK_n; have F := F_n; have HO := HO_n; clear HK_n F_n HO_n)
            go_wp2_with (go_at_call 18; (with_reducible refine (sync_calls _ _ _ _ (HS.out.next F.out.size) HK.out HO.out.ok).mono ?_); rintro e w1 ⟨rfl, hk1, hf1⟩; have HK_n := Aside0.mk hk1; have F_n := Aside0.mk (F.out.trans hf1); clear HK F hk1 hf1; have HK := HK_n; have F := F_n; clear HK_n F_n)
            go_ret
            refine ⟨?_, ?_, F.out⟩
            · rw [HE0.out, if_neg (by simp [HWE.out])]; rfl
            · rw [HD0.out, if_neg (by simp [HWE.out])]; exact HK.out
          · have hwe : (writeE d (spotM base t) (secM t c l) == 0) = false := by simp [hw]
            have HWE := Aside0.mk hw; clear hw
            go_upto_region 16 with (go_at_call 16; (with_reducible refine (write_calls _ _ _ _ _ _ (HS.out.next F.out.size) HK.out HO.out.ok).mono ?_); rintro e w1 ⟨rfl, hk1, hf1⟩; have HK_n := Aside0.mk hk1; have F_n := Aside0.mk (F.out.trans hf1); have HO_n := Aside0.mk (okOf hk1 (ok_write HO.out HN.out)); clear HK F HO hk1 hf1; have HK := HK_n; have F := F_n; have HO := HO_n; clear HK_n F_n HO_n)
            go_wp2
            go_ret
            refine ⟨?_, ?_, F.out⟩
            · rw [HE0.out, if_pos HWE.out]; rfl
            · rw [HD0.out, if_pos HWE.out]; exact HK.out
  · have hb0 : (bothE d base == 0) = false := by simp [hB]
    have e1 : writeME d base t c l = bothE d base := by unfold writeME; rw [if_pos hB]
    have e2 : writeMD d base t c l = d := by unfold writeMD; rw [if_pos hB]
    rw [e1, e2]
    clear e1 e2 hB
    go_enter Try.func35, Try.ntmps35
    go_upto_region 1 with (fail)
    have hta := heap_alloc_new w (.cells #[.int .i64 c, .int .i64 l] 61)
    have hbb := (Below.refl w.heap.size w).alloc (Nat.le_refl _) (.cells #[.int .i64 c, .int .i64 l] 61)
    have hk1 := HK.out.below hbb
    clear HK
    have HK := Aside0.mk hk1; have F := Aside0.mk ((FS.refl S w).below hbb); have HB := Aside0.mk hta
    clear hk1 hbb hta
    generalize w.alloc (.cells #[.int .i64 c, .int .i64 l] 61) = W at *
    go_wp2_with (first | (go_at_call 50; (with_reducible refine (mthere_calls _ _ _ _ _ HK.out HO.out.ok).mono ?_); rintro e w1 ⟨rfl, hb1⟩; have F_n := Aside0.mk (F.out.below hb1); have HB_n := Aside0.mk (blk_below HB.out hb1); have HK_n := Aside0.mk (HK.out.below hb1); clear F HB HK hb1; have F := F_n; have HB := HB_n; have HK := HK_n; clear F_n HB_n HK_n; have b0 : w1.cell? ⟨w.heap.size, 0, none⟩ = some (.int .i64 c) := blk_cell HB.out 0; have b1 : w1.cell? ⟨w.heap.size, 1, none⟩ = some (.int .i64 l) := blk_cell HB.out 1))
    go_ret
    exact ⟨rfl, HK.out, F.out⟩
end Go.Proofs.Ytbdfdfahpdilpaa.X12
