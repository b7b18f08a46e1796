import Derived.Test.YtnhlfafdldpdgaaFlt
import Derived.Test.YtnhlfafdldpdgaaArr
import Derived.Test.YtnhlfafdldpdgaaProg
/-! Layer 2: the functions on one cell. -/
namespace Go.Proofs.Ytnhlfafdldpdgaa.Cell
open Go Go.RowKit Go.Proofs.Ytnhlfafdldpdgaa.Arr Go.Proofs.Ytnhlfafdldpdgaa.Flt Go.Proofs.YtnhlfafdldpdgaaW.PrintWords Go.Proofs.YtnhlfafdldpdgaaW.PrintLast Go.Proofs.YtnhlfafdldpdgaaW.PrintMore
set_option linter.unusedVariables false
set_option linter.unusedSimpArgs false
abbrev fl (b : Nat) : Value := .float .f64 b
theorem run_bits (b : Nat) (w : World) : (callFunc 23 #[.float .f64 b]).run Try.prog w = .ok (.value (.int .u64 (b : Int))) w := by
  rw [run_callFunc_extern (e := Extern.MathFloatBits.float64bits) Try.func23 (by kernel_rfl) (by kernel_rfl) (by kernel_rfl) (by rfl)]
  rfl
theorem run_frombits (n : Int) (w : World) : (callFunc 54 #[.int .u64 n]).run Try.prog w = .ok (.value (.float .f64 n.toNat)) w := by
  rw [run_callFunc_extern (e := Extern.MathFloatBits.float64frombits) Try.func54 (by kernel_rfl) (by kernel_rfl) (by kernel_rfl) (by rfl)]
  rfl
attribute [local go_sem] run_bits run_frombits
/-- What a function that makes nothing leaves: its value. -/
abbrev Gives (v : Value) (w : World) (e : Ending) (w' : World) : Prop := e = .returned v ∧ Below w.heap.size w w'
theorem canon_calls (b : Nat) (w : World) : Calls Try.prog 53 #[.float .f64 b] w (Gives (.float .f64 (cn b)) w) := by
  have HB := Aside0.mk (Below.refl w.heap.size w)
  cases h : isN b with
  | true =>
    have hn : (FloatKind.f64.format.order b b != some .eq) = true := (neq_self b).trans h
    rw [cn_nan h]
    clear h
    go_enter Try.func53, Try.ntmps53
    go_wp2
    go_ret
    exact ⟨rfl, HB.out⟩
  | false =>
    have hn : (FloatKind.f64.format.order b b != some .eq) = false := (neq_self b).trans h
    rw [cn_num h]
    clear h
    go_enter Try.func53, Try.ntmps53
    go_wp2
    go_ret
    exact ⟨rfl, HB.out⟩
/-- The number of the first k bytes. -/
def acc (s : ByteArray) : Nat → Nat
  | 0 => 0
  | k + 1 => acc s k * 256 + (s[k]!).toNat
theorem acc_lt (s : ByteArray) : ∀ k, acc s k < 256 ^ k
  | 0 => by show 0 < 1; decide
  | k + 1 => by
    have := acc_lt s k
    have := (s[k]!).toNat_lt
    show acc s k * 256 + (s[k]!).toNat < 256 ^ (k + 1)
    rw [Nat.pow_succ]
    omega
theorem acc_succ (s : ByteArray) (k : Nat) (h : k < s.size) : acc s (k + 1) = acc s k * 256 + (s[k]'h).toNat := by
  show _ + (s[k]!).toNat = _
  rw [getElem!_pos s k h]
theorem or_acc (a : Nat) (b : UInt8) (h : a < 72057594037927936) : bits .or .u64 (IntKind.u64.wrap ((a : Int) * 256)) (IntKind.u64.wrap (b.toNat : Int)) = ((a * 256 + b.toNat : Nat) : Int) := by
  have hb := b.toNat_lt
  rw [IntKind.wrap_u64, IntKind.wrap_u64]
  rw [show ((a : Int) * 256) % 18446744073709551616 = (a : Int) * 256 by omega, show (b.toNat : Int) % 18446744073709551616 = (b.toNat : Int) by omega]
  rw [bits_join .u64 64 (by decide) (fun n x y => by rw [IntKind.wrap_u64]; omega) 8 ((a : Int) * 256) b.toNat (by omega) (by omega) (by omega) (by omega) (by omega) (by omega)]
  omega
theorem acc_56 (s : ByteArray) (k : Nat) (h : k < 8) : acc s k < 72057594037927936 := by
  refine Nat.lt_of_lt_of_le (acc_lt s k) ?_
  exact Nat.pow_le_pow_right (n := 256) (by decide) (by omega : k ≤ 7)
theorem acc_64 (s : ByteArray) : acc s 8 < 18446744073709551616 := acc_lt s 8
theorem float_calls (s : ByteArray) (w : World) : Calls Try.prog 18 #[.string s] w (Gives (if s.size = 8 then .tuple #[.float .f64 (cn (acc s 8)), .int .i64 0] else .tuple #[.float .f64 0, .int .i64 1]) w) := by
  have HB := Aside0.mk (Below.refl w.heap.size w)
  by_cases h : s.size = 8
  · rw [if_pos h]
    have z : ((s.size : Int) != 8) = false := by simp [h]
    have hi : ∀ k : Nat, k < 8 → (k : Int) < (s.size : Int) := fun k hk => by omega
    have HI := Aside0.mk hi
    have HS := Aside0.mk h
    clear h hi
    go_enter Try.func18, Try.ntmps18
    go_upto_region 5 with (fail)
    go_loopw [4, 9] (fun v i wr => ∃ k : Nat, i = .int .i64 k ∧ v = .int .u64 (acc s k : Int) ∧ wr = w ∧ Aside0 (k ≤ 8)) (fun _ i _ => 8 - (intOf i).toNat)
    case atStart => exact ⟨0, rfl, rfl, rfl, ⟨by omega⟩⟩
    case round =>
      obtain ⟨k, rfl, rfl, rfl, K⟩ := hrel
      by_cases hlt : (k : Int) < 8
      · have h1 : (k : Int) < (s.size : Int) := HI.out k (by omega)
        have h2 : k < s.size := by omega
        have h0 : (0 : Int) ≤ (k : Int) := by omega
        go_upto_region 8 with (fail)
        have hwk : wrap64 ((k : Int) + 1) = ((k + 1 : Nat) : Int) := by unfold wrap64; omega
        rw [or_acc _ _ (acc_56 s k (by omega)), ← acc_succ s k h2]
        go_wp2
        go_roundw
        case rel => exact ⟨k + 1, by first | rw [hwk] | go_num, rfl, by trivial, ⟨by omega⟩⟩
        case measure =>
          try rw [hwk]
          simp [intOf]; omega
      · obtain rfl : k = 8 := by have := K.out; omega
        clear hlt
        go_upto_region 9 with (fail)
        have hz : (0 : Int) ≤ (acc s 8 : Int) := by omega
        go_wp2_with (go_at_call 53; refine (canon_calls (acc s 8) _).mono ?_; rintro e w1 ⟨rfl, hb1⟩)
        go_ret2
        exact ⟨rfl, hb1⟩
  · rw [if_neg h]
    have z : ((s.size : Int) != 8) = true := by simpa using (by omega : ¬ (s.size : Int) = 8)
    clear h
    go_enter Try.func18, Try.ntmps18
    go_wp2
    go_ret2
    exact ⟨rfl, HB.out⟩
/-- Eight bytes of a number, the highest first. -/
def by8 (n : Nat) : ByteArray := ⟨#[UInt8.ofNat (n / 72057594037927936 % 256), UInt8.ofNat (n / 281474976710656 % 256), UInt8.ofNat (n / 1099511627776 % 256), UInt8.ofNat (n / 4294967296 % 256), UInt8.ofNat (n / 16777216 % 256), UInt8.ofNat (n / 65536 % 256), UInt8.ofNat (n / 256 % 256), UInt8.ofNat (n % 256)]⟩
/-- A byte set. -/
def setB (s : ByteArray) (i : Nat) (b : UInt8) : ByteArray := ⟨s.data.setIfInBounds i b⟩
theorem setB_size (s : ByteArray) (i : Nat) (b : UInt8) : (setB s i b).size = s.size := Array.size_setIfInBounds ..
theorem row_setB (s : ByteArray) (i : Nat) (v : Int) (h0 : 0 ≤ v) (h1 : v < 256) : (row s).setIfInBounds i (.int .u8 v) = row (setB s i (UInt8.ofNat v.toNat)) := by
  apply Array.toList_inj.1
  have e : ((UInt8.ofNat v.toNat).toNat : Int) = v := by
    rw [UInt8.toNat_ofNat']; omega
  simp only [row, setB, Lib.byteCells, Array.toList_setIfInBounds, List.map_set, e]
def bb (n k : Nat) : UInt8 := UInt8.ofNat (n / 2 ^ (56 - 8 * k) % 256)
def laid (n : Nat) : Nat → ByteArray
  | 0 => noughts 8
  | k + 1 => setB (laid n k) k (bb n k)
theorem laid_size (n k : Nat) : (laid n k).size = 8 := by
  induction k with
  | zero => rfl
  | succ k ih => rw [laid, setB_size, ih]
theorem laid_8 (n : Nat) : laid n 8 = by8 n := by
  unfold by8
  simp [laid, setB, noughts, bb, List.replicate]
theorem store_laid {w : World} {g : Nat} {T : TypeId} {n : Nat} (k : Nat) (h : w.heap[g]? = some (.cells (row (laid n k)) T (0, 0))) (v : Int) (hv : UInt8.ofNat v.toNat = bb n k) (h0 : 0 ≤ v) (h1 : v < 256) : (w.setCell ⟨g, k, none⟩ (.int .u8 v)).heap[g]? = some (.cells (row (laid n (k + 1))) T (0, 0)) := by
  have h2 := blk_set h k (.int .u8 v)
  rw [row_setB _ _ _ h0 h1, hv] at h2
  exact h2
theorem bb_eq (n k : Nat) (d : Nat) (hd : 2 ^ (56 - 8 * k) = d) : UInt8.ofNat ((n : Int) / (d : Int) % 256).toNat = bb n k := by
  unfold bb
  rw [hd]
  rfl
theorem bytes_calls (b : Nat) (hb : b < 18446744073709551616) (w : World) : Calls Try.prog 19 #[.float .f64 b] w (Gives (.string (by8 (cn b))) w) := by
  have HB := Aside0.mk (Below.refl w.heap.size w)
  have HN := Aside0.mk (cn_lt hb)
  generalize hn : cn b = n at *
  go_enter Try.func19, Try.ntmps19
  go_upto_region 2 with (go_at_call 53; refine (canon_calls b _).mono ?_; rintro e w1 ⟨rfl, hb1⟩; have n_ := Aside0.mk (Arr.below_trans HB.out hb1); clear HB; have HB := n_; clear n_ hb1)
  clear hn
  go_upto_region 4 with (fail)
  have b0 := heap_alloc_new w1 (Obj.cells (row (laid n 0)) 65)
  have hB := HB.out.alloc HB.out.size (Obj.cells (row (laid n 0)) 65)
  have hsz : w.heap.size ≤ w1.heap.size := HB.out.size
  clear HB
  change Code.wp _ _ _ _ (w1.alloc (Obj.cells (row (laid n 0)) 65))
  generalize w1.alloc (Obj.cells (row (laid n 0)) 65) = w2 at *
  generalize w1.heap.size = g at *
  have B0 := Aside0.mk b0; have HB := Aside0.mk hB; clear b0 hB
  go_loopw [9] (fun i wr => ∃ k : Nat, i = .int .i64 k ∧ Aside0 (k ≤ 8) ∧ Aside0 (wr.heap[g]? = some (.cells (row (laid n k)) 65 (0, 0))) ∧ Aside0 (Below w.heap.size w wr)) (fun i _ => 8 - (intOf i).toNat)
  case atStart => exact ⟨0, rfl, ⟨by omega⟩, B0, HB⟩
  case round =>
    clear B0 HB
    obtain ⟨k, rfl, hk, B0, HB⟩ := hrel
    rcases (show k = 0 ∨ k = 1 ∨ k = 2 ∨ k = 3 ∨ k = 4 ∨ k = 5 ∨ k = 6 ∨ k = 7 ∨ k = 8 by have := hk.out; omega) with rfl | rfl | rfl | rfl | rfl | rfl | rfl | rfl | rfl
    · have c1 : wr.cell? ⟨g, 0, none⟩ = _ := (blk_cell B0.out 0).trans (row_cell _ 0 (by rw [laid_size]; omega))
      have f1 : wr.frozen? ⟨g, 0, none⟩ = false := blk_frozen B0.out 0
      have q0 : 0 ≤ (n : Int) / 72057594037927936 % 256 ∧ (n : Int) / 72057594037927936 % 256 < 256 := by omega
      have qe : UInt8.ofNat ((n : Int) / 72057594037927936 % 256).toNat = bb n 0 := bb_eq n 0 72057594037927936 rfl
      go_wp2
      have B3 := store_laid 0 B0.out ((n : Int) / 72057594037927936 % 256) qe q0.1 q0.2
      have HB3 := HB.out.setCell (p := ⟨g, 0, none⟩) hsz (.int .u8 ((n : Int) / 72057594037927936 % 256))
      go_roundw
      case rel => exact ⟨1, rfl, ⟨by omega⟩, ⟨B3⟩, ⟨HB3⟩⟩
      case measure => simp [intOf]
    · have c1 : wr.cell? ⟨g, 1, none⟩ = _ := (blk_cell B0.out 1).trans (row_cell _ 1 (by rw [laid_size]; omega))
      have f1 : wr.frozen? ⟨g, 1, none⟩ = false := blk_frozen B0.out 1
      have q0 : 0 ≤ (n : Int) / 281474976710656 % 256 ∧ (n : Int) / 281474976710656 % 256 < 256 := by omega
      have qe : UInt8.ofNat ((n : Int) / 281474976710656 % 256).toNat = bb n 1 := bb_eq n 1 281474976710656 rfl
      go_wp2
      have B3 := store_laid 1 B0.out ((n : Int) / 281474976710656 % 256) qe q0.1 q0.2
      have HB3 := HB.out.setCell (p := ⟨g, 1, none⟩) hsz (.int .u8 ((n : Int) / 281474976710656 % 256))
      go_roundw
      case rel => exact ⟨2, rfl, ⟨by omega⟩, ⟨B3⟩, ⟨HB3⟩⟩
      case measure => simp [intOf]
    · have c1 : wr.cell? ⟨g, 2, none⟩ = _ := (blk_cell B0.out 2).trans (row_cell _ 2 (by rw [laid_size]; omega))
      have f1 : wr.frozen? ⟨g, 2, none⟩ = false := blk_frozen B0.out 2
      have q0 : 0 ≤ (n : Int) / 1099511627776 % 256 ∧ (n : Int) / 1099511627776 % 256 < 256 := by omega
      have qe : UInt8.ofNat ((n : Int) / 1099511627776 % 256).toNat = bb n 2 := bb_eq n 2 1099511627776 rfl
      go_wp2
      have B3 := store_laid 2 B0.out ((n : Int) / 1099511627776 % 256) qe q0.1 q0.2
      have HB3 := HB.out.setCell (p := ⟨g, 2, none⟩) hsz (.int .u8 ((n : Int) / 1099511627776 % 256))
      go_roundw
      case rel => exact ⟨3, rfl, ⟨by omega⟩, ⟨B3⟩, ⟨HB3⟩⟩
      case measure => simp [intOf]
    · have c1 : wr.cell? ⟨g, 3, none⟩ = _ := (blk_cell B0.out 3).trans (row_cell _ 3 (by rw [laid_size]; omega))
      have f1 : wr.frozen? ⟨g, 3, none⟩ = false := blk_frozen B0.out 3
      have q0 : 0 ≤ (n : Int) / 4294967296 % 256 ∧ (n : Int) / 4294967296 % 256 < 256 := by omega
      have qe : UInt8.ofNat ((n : Int) / 4294967296 % 256).toNat = bb n 3 := bb_eq n 3 4294967296 rfl
      go_wp2
      have B3 := store_laid 3 B0.out ((n : Int) / 4294967296 % 256) qe q0.1 q0.2
      have HB3 := HB.out.setCell (p := ⟨g, 3, none⟩) hsz (.int .u8 ((n : Int) / 4294967296 % 256))
      go_roundw
      case rel => exact ⟨4, rfl, ⟨by omega⟩, ⟨B3⟩, ⟨HB3⟩⟩
      case measure => simp [intOf]
    · have c1 : wr.cell? ⟨g, 4, none⟩ = _ := (blk_cell B0.out 4).trans (row_cell _ 4 (by rw [laid_size]; omega))
      have f1 : wr.frozen? ⟨g, 4, none⟩ = false := blk_frozen B0.out 4
      have q0 : 0 ≤ (n : Int) / 16777216 % 256 ∧ (n : Int) / 16777216 % 256 < 256 := by omega
      have qe : UInt8.ofNat ((n : Int) / 16777216 % 256).toNat = bb n 4 := bb_eq n 4 16777216 rfl
      go_wp2
      have B3 := store_laid 4 B0.out ((n : Int) / 16777216 % 256) qe q0.1 q0.2
      have HB3 := HB.out.setCell (p := ⟨g, 4, none⟩) hsz (.int .u8 ((n : Int) / 16777216 % 256))
      go_roundw
      case rel => exact ⟨5, rfl, ⟨by omega⟩, ⟨B3⟩, ⟨HB3⟩⟩
      case measure => simp [intOf]
    · have c1 : wr.cell? ⟨g, 5, none⟩ = _ := (blk_cell B0.out 5).trans (row_cell _ 5 (by rw [laid_size]; omega))
      have f1 : wr.frozen? ⟨g, 5, none⟩ = false := blk_frozen B0.out 5
      have q0 : 0 ≤ (n : Int) / 65536 % 256 ∧ (n : Int) / 65536 % 256 < 256 := by omega
      have qe : UInt8.ofNat ((n : Int) / 65536 % 256).toNat = bb n 5 := bb_eq n 5 65536 rfl
      go_wp2
      have B3 := store_laid 5 B0.out ((n : Int) / 65536 % 256) qe q0.1 q0.2
      have HB3 := HB.out.setCell (p := ⟨g, 5, none⟩) hsz (.int .u8 ((n : Int) / 65536 % 256))
      go_roundw
      case rel => exact ⟨6, rfl, ⟨by omega⟩, ⟨B3⟩, ⟨HB3⟩⟩
      case measure => simp [intOf]
    · have c1 : wr.cell? ⟨g, 6, none⟩ = _ := (blk_cell B0.out 6).trans (row_cell _ 6 (by rw [laid_size]; omega))
      have f1 : wr.frozen? ⟨g, 6, none⟩ = false := blk_frozen B0.out 6
      have q0 : 0 ≤ (n : Int) / 256 % 256 ∧ (n : Int) / 256 % 256 < 256 := by omega
      have qe : UInt8.ofNat ((n : Int) / 256 % 256).toNat = bb n 6 := bb_eq n 6 256 rfl
      go_wp2
      have B3 := store_laid 6 B0.out ((n : Int) / 256 % 256) qe q0.1 q0.2
      have HB3 := HB.out.setCell (p := ⟨g, 6, none⟩) hsz (.int .u8 ((n : Int) / 256 % 256))
      go_roundw
      case rel => exact ⟨7, rfl, ⟨by omega⟩, ⟨B3⟩, ⟨HB3⟩⟩
      case measure => simp [intOf]
    · have c1 : wr.cell? ⟨g, 7, none⟩ = _ := (blk_cell B0.out 7).trans (row_cell _ 7 (by rw [laid_size]; omega))
      have f1 : wr.frozen? ⟨g, 7, none⟩ = false := blk_frozen B0.out 7
      have q0 : 0 ≤ (n : Int) % 256 ∧ (n : Int) % 256 < 256 := by omega
      have qe : UInt8.ofNat ((n : Int) % 256).toNat = bb n 7 := by have := bb_eq n 7 1 rfl; rwa [show ((1 : Nat) : Int) = 1 from rfl, Int.ediv_one] at this
      go_wp2
      have B3 := store_laid 7 B0.out ((n : Int) % 256) qe q0.1 q0.2
      have HB3 := HB.out.setCell (p := ⟨g, 7, none⟩) hsz (.int .u8 ((n : Int) % 256))
      go_roundw
      case rel => exact ⟨8, rfl, ⟨by omega⟩, ⟨B3⟩, ⟨HB3⟩⟩
      case measure => simp [intOf]
    · clear hk
      have cv := conv_whole B0.out 66 5 9 Try.underlying66 Try.underlying5 Try.underlying9 8 8 (laid_size n 8)
      rw [laid_8] at cv
      go_wp2
      go_ret
      exact ⟨rfl, HB.out⟩
-- BEHIND BYTES
def addS (s : ByteArray) (f : Nat) : ByteArray := by8 (vop .add (acc s 8) f)
theorem add_calls (s : ByteArray) (f : Nat) (w : World) : Calls Try.prog 24 #[.string s, .float .f64 f] w (Gives (if s.size = 8 then .tuple #[.string (addS s f), .int .i64 0] else .tuple #[.string ⟨#[]⟩, .int .i64 1]) w) := by
  have HB := Aside0.mk (Below.refl w.heap.size w)
  have hF := float_calls s
  by_cases h : s.size = 8
  · rw [if_pos h]
    simp only [if_pos h] at hF
    have HF := Aside0.mk hF
    clear h hF
    unfold addS
    generalize acc s 8 = a at *
    go_enter Try.func24, Try.ntmps24
    go_upto_region 4 with (go_at_call 18; refine (HF.out _).mono ?_; rintro e w1 ⟨rfl, hb1⟩; have n_ := Aside0.mk (Arr.below_trans HB.out hb1); clear HB; have HB := n_; clear n_ hb1)
    obtain ⟨b1, w2, hrun, hc, hl, hb2⟩ := run_op (P := Try.prog) w1 .add 22 (cn a) f (Or.inl rfl)
    rw [vop_l (cn_cn a)] at hc
    have HB2 := Aside0.mk (Arr.below_trans HB.out hb2)
    have HL := Aside0.mk hl; have HC := Aside0.mk hc
    clear hb2 hl hc HB
    go_wp2_with (go_at_call 19; refine (bytes_calls b1 HL.out _).mono ?_; rintro e w3 ⟨rfl, hb1⟩; have n_ := Aside0.mk (Arr.below_trans HB2.out hb1); clear HB2; have HB2 := n_; clear n_ hb1)
    go_ret2
    exact ⟨by rw [HC.out]; rfl, HB2.out⟩
  · rw [if_neg h]
    simp only [if_neg h] at hF
    have HF := Aside0.mk hF
    clear h hF
    go_enter Try.func24, Try.ntmps24
    go_wp2_with (go_at_call 18; refine (HF.out _).mono ?_; rintro e w1 ⟨rfl, hb1⟩; have n_ := Aside0.mk (Arr.below_trans HB.out hb1); clear HB; have HB := n_; clear n_ hb1)
    go_ret2
    exact ⟨rfl, HB.out⟩
/-- A zero with a minus. -/
def minus (b : Nat) : Bool := b == 9223372036854775808
theorem keyI_zero (b : Nat) (hb : b < 18446744073709551616) : keyI b = 0 ↔ b = 0 ∨ b = 9223372036854775808 := by
  unfold keyI ng rg
  by_cases c : b / 9223372036854775808 % 2 = 1
  · simp only [c, beq_self_eq_true, if_true]; omega
  · have : (b / 9223372036854775808 % 2 == 1) = false := by simpa using c
    simp only [this, Bool.false_eq_true, if_false]; omega
theorem rank_calls (b : Nat) (hb : b < 18446744073709551616) (w : World) : Calls Try.prog 55 #[.float .f64 b] w (Gives (.tuple #[.int .i64 (if isN b then 1 else 0), .int .i64 (if minus b then -1 else 0)]) w) := by
  have HB := Aside0.mk (Below.refl w.heap.size w)
  cases h : isN b with
  | true =>
    have hn : (FloatKind.f64.format.order b b != some .eq) = true := (neq_self b).trans h
    have hm : minus b = false := by
      cases g : minus b with
      | false => rfl
      | true => rw [show b = 9223372036854775808 from beq_iff_eq.1 g] at h; cases h
    rw [hm]
    clear h hm
    go_enter Try.func55, Try.ntmps55
    go_wp2
    go_ret2
    exact ⟨rfl, HB.out⟩
  | false =>
    have hn : (FloatKind.f64.format.order b b != some .eq) = false := (neq_self b).trans h
    by_cases z : b = 0 ∨ b = 9223372036854775808
    · rcases z with rfl | rfl
      · clear h hn
        go_enter Try.func55, Try.ntmps55
        have h0 : (FloatKind.f64.format.order 0 0 != some .eq) = false := by decide +kernel
        have h1 : (FloatKind.f64.format.order 0 0 == some .eq) = true := by decide +kernel
        have h2 : (binOp .quo 22 (.float .f64 4607182418800017408) (.float .f64 0)).run Try.prog w = .ok (.float .f64 9218868437227405312) w := run_float_arith w .quo _ .f64 _ _ _ (by decide +kernel)
        have h3 : (FloatKind.f64.format.order 9218868437227405312 0 == some .lt) = false := by decide +kernel
        go_wp2
        go_ret2
        exact ⟨rfl, HB.out⟩
      · clear h hn
        go_enter Try.func55, Try.ntmps55
        have h0 : (FloatKind.f64.format.order 9223372036854775808 9223372036854775808 != some .eq) = false := by decide +kernel
        have h1 : (FloatKind.f64.format.order 9223372036854775808 0 == some .eq) = true := by decide +kernel
        have h2 : (binOp .quo 22 (.float .f64 4607182418800017408) (.float .f64 9223372036854775808)).run Try.prog w = .ok (.float .f64 18442240474082181120) w := run_float_arith w .quo _ .f64 _ _ _ (by decide +kernel)
        have h3 : (FloatKind.f64.format.order 18442240474082181120 0 == some .lt) = true := by decide +kernel
        go_wp2
        go_ret2
        exact ⟨rfl, HB.out⟩
    · have he : (FloatKind.f64.format.order b 0 == some .eq) = false := by
        rw [eql_eq, h]
        have : ¬ keyI b = keyI 0 := fun q => z ((keyI_zero b hb).1 (q.trans rfl))
        simp [this]
      have hm : minus b = false := by
        cases g : minus b with
        | false => rfl
        | true => exact absurd (Or.inr (beq_iff_eq.1 g)) z
      rw [hm]
      clear h z hm
      go_enter Try.func55, Try.ntmps55
      go_wp2
      go_ret2
      exact ⟨rfl, HB.out⟩
/-- A float's place in the row of all. -/
def kz (b : Nat) : Int := if isN b then 9223372036854775807 else if 9223372036854775808 ≤ b then -1 - ((b : Int) - 9223372036854775808) else (b : Int)
def ordF (a b : Nat) : Int := if kz a < kz b then -1 else if kz b < kz a then 1 else 0
theorem kz_cn (b : Nat) : kz (cn b) = kz b := by
  cases h : isN b with
  | true => unfold kz; rw [isN_cn, h]; rfl
  | false => rw [cn_num h]
theorem kz_nan {b : Nat} (h : isN b = true) : kz b = 9223372036854775807 := by unfold kz; rw [h]; rfl
theorem kz_split {b : Nat} (h : isN b = false) (hb : b < 18446744073709551616) : (b ≤ 9218868437227405312 ∧ kz b = (b : Int) ∧ keyI b = (b : Int) ∧ minus b = false) ∨ (9223372036854775808 ≤ b ∧ b ≤ 18442240474082181120 ∧ kz b = -1 - ((b : Int) - 9223372036854775808) ∧ keyI b = -((b : Int) - 9223372036854775808) ∧ minus b = decide (b = 9223372036854775808)) := by
  have hn := not_nan h
  unfold rg at hn
  unfold kz keyI ng rg minus
  rw [h]
  simp only [Bool.false_eq_true, if_false]
  by_cases c : 9223372036854775808 ≤ b
  · right
    have e : b / 9223372036854775808 % 2 = 1 := by omega
    rw [if_pos c, e]
    refine ⟨c, by omega, rfl, ?_, rfl⟩
    simp only [beq_self_eq_true, if_true]
    omega
  · left
    have e : b / 9223372036854775808 % 2 = 0 := by omega
    rw [if_neg c, e]
    refine ⟨by omega, rfl, ?_, ?_⟩
    · simp only [show ((0 : Nat) == 1) = false from rfl, Bool.false_eq_true, if_false]; omega
    · exact beq_eq_false_iff_ne.2 (by omega)
theorem kz_lt {b : Nat} (h : isN b = false) (hb : b < 18446744073709551616) : kz b < 9223372036854775807 ∧ -9223372036854775808 ≤ kz b := by
  rcases kz_split h hb with ⟨h1, h2, _⟩ | ⟨h1, h2, h3, _⟩ <;> omega
theorem minus_nan {b : Nat} (h : isN b = true) : minus b = false := by
  cases g : minus b with
  | false => rfl
  | true => rw [show b = 9223372036854775808 from beq_iff_eq.1 g] at h; cases h
set_option maxHeartbeats 4000000 in
theorem order_calls (a b : Nat) (ha : a < 18446744073709551616) (hb : b < 18446744073709551616) (w : World) : Calls Try.prog 25 #[.float .f64 a, .float .f64 b] w (Gives (.int .i64 (ordF a b)) w) := by
  have HB := Aside0.mk (Below.refl w.heap.size w)
  have h1 : (FloatKind.f64.format.order a b == some .lt) = (!isN a && (!isN b && decide (keyI a < keyI b))) := lss_eq a b
  have h2 : (FloatKind.f64.format.order a b == some .gt) = (!isN a && (!isN b && decide (keyI b < keyI a))) := gtr_eq a b
  have h3 : (FloatKind.f64.format.order a b == some .eq) = (!isN a && (!isN b && decide (keyI a = keyI b))) := eql_eq a b
  have R1 := rank_calls a ha; have R2 := rank_calls b hb
  have hd : ∀ p : Prop, [Decidable p] → ¬ p → decide p = false := fun p _ h => decide_eq_false h
  have ht : ∀ p : Prop, [Decidable p] → p → decide p = true := fun p _ h => decide_eq_true h
  cases na : isN a with
  | true =>
    have ka := kz_nan na
    have ma : minus a = false := minus_nan na
    simp only [na, if_true, ma, Bool.false_eq_true, if_false] at R1
    cases nb : isN b with
    | true =>
      have mb : minus b = false := minus_nan nb
      simp only [nb, if_true, mb, Bool.false_eq_true, if_false] at R2
      have e : ordF a b = 0 := by unfold ordF; rw [ka, kz_nan nb]; rfl
      rw [e]
      have HR1 := Aside0.mk R1; have HR2 := Aside0.mk R2
      clear R1 R2 h1 h2 h3 na nb ka e ma mb hd ht
      go_enter Try.func25, Try.ntmps25
      go_wp2_with (first | (go_at_call 55; (first | with_reducible refine (HR1.out _).mono ?_ | with_reducible refine (HR2.out _).mono ?_); rintro e w1 ⟨rfl, hb1⟩; have n_ := Aside0.mk (Arr.below_trans HB.out hb1); clear HB; have HB := n_; clear n_ hb1))
      all_goals (go_ret; exact ⟨rfl, HB.out⟩)
    | false =>
      have kb := kz_lt nb hb
      simp only [nb, Bool.false_eq_true, if_false] at R2
      have e : ordF a b = 1 := by unfold ordF; rw [ka, if_neg (by omega), if_pos (by omega)]
      rw [e]
      have HR1 := Aside0.mk R1; have HR2 := Aside0.mk R2
      clear R1 R2 h1 h2 h3 na nb ka e ma kb hd ht
      go_enter Try.func25, Try.ntmps25
      go_wp2_with (first | (go_at_call 55; (first | with_reducible refine (HR1.out _).mono ?_ | with_reducible refine (HR2.out _).mono ?_); rintro e w1 ⟨rfl, hb1⟩; have n_ := Aside0.mk (Arr.below_trans HB.out hb1); clear HB; have HB := n_; clear n_ hb1))
      all_goals (go_ret; exact ⟨rfl, HB.out⟩)
  | false =>
    have ka := kz_lt na ha
    simp only [na, Bool.false_eq_true, if_false] at R1
    cases nb : isN b with
    | true =>
      have kb := kz_nan nb
      simp only [nb, if_true] at R2
      have e : ordF a b = -1 := by unfold ordF; rw [kb, if_pos (by omega)]
      rw [e]
      have HR1 := Aside0.mk R1; have HR2 := Aside0.mk R2
      clear R1 R2 h1 h2 h3 na nb ka e kb hd ht
      go_enter Try.func25, Try.ntmps25
      go_wp2_with (first | (go_at_call 55; (first | with_reducible refine (HR1.out _).mono ?_ | with_reducible refine (HR2.out _).mono ?_); rintro e w1 ⟨rfl, hb1⟩; have n_ := Aside0.mk (Arr.below_trans HB.out hb1); clear HB; have HB := n_; clear n_ hb1))
      all_goals (go_ret; exact ⟨rfl, HB.out⟩)
    | false =>
      simp only [nb, Bool.false_eq_true, if_false] at R2
      rw [na, nb] at h1 h2 h3
      simp only [Bool.not_false, Bool.true_and] at h1 h2 h3
      have sa := kz_split na ha; have sb := kz_split nb hb
      rcases Int.lt_trichotomy (kz a) (kz b) with g | g | g
      · have e : ordF a b = -1 := by unfold ordF; rw [if_pos g]
        rw [e]
        by_cases g2 : keyI a < keyI b
        · rw [ht _ g2] at h1; rw [hd _ (by omega)] at h2; rw [hd _ (by omega)] at h3
          have HR1 := Aside0.mk R1; have HR2 := Aside0.mk R2
          clear R1 R2 na nb e sa sb g g2 hd ht
          go_enter Try.func25, Try.ntmps25
          go_wp2_with (first | (go_at_call 55; (first | with_reducible refine (HR1.out _).mono ?_ | with_reducible refine (HR2.out _).mono ?_); rintro e w1 ⟨rfl, hb1⟩; have n_ := Aside0.mk (Arr.below_trans HB.out hb1); clear HB; have HB := n_; clear n_ hb1))
          all_goals (go_ret; exact ⟨rfl, HB.out⟩)
        · have g3 : keyI a = keyI b ∧ minus a = true ∧ minus b = false := by
            rcases sa with ⟨a1, a2, a3, a4⟩ | ⟨a1, a0, a2, a3, a4⟩ <;> rcases sb with ⟨b1, b2, b3, b4⟩ | ⟨b1, b0, b2, b3, b4⟩
            · omega
            · omega
            · exact ⟨by omega, by rw [a4]; exact decide_eq_true (by omega), b4⟩
            · omega
          rw [hd _ g2] at h1; rw [hd _ (by omega)] at h2; rw [ht _ g3.1] at h3
          rw [g3.2.1] at R1; rw [g3.2.2] at R2
          have HR1 := Aside0.mk R1; have HR2 := Aside0.mk R2
          clear R1 R2 na nb e sa sb g g2 g3 hd ht
          go_enter Try.func25, Try.ntmps25
          go_wp2_with (first | (go_at_call 55; (first | with_reducible refine (HR1.out _).mono ?_ | with_reducible refine (HR2.out _).mono ?_); rintro e w1 ⟨rfl, hb1⟩; have n_ := Aside0.mk (Arr.below_trans HB.out hb1); clear HB; have HB := n_; clear n_ hb1))
          all_goals (go_ret; exact ⟨rfl, HB.out⟩)
      · have e : ordF a b = 0 := by unfold ordF; rw [if_neg (by omega), if_neg (by omega)]
        rw [e]
        have g3 : keyI a = keyI b ∧ minus a = minus b := by
          rcases sa with ⟨a1, a2, a3, a4⟩ | ⟨a1, a0, a2, a3, a4⟩ <;> rcases sb with ⟨b1, b2, b3, b4⟩ | ⟨b1, b0, b2, b3, b4⟩
          · exact ⟨by omega, by rw [a4, b4]⟩
          · omega
          · omega
          · exact ⟨by omega, by rw [a4, b4, show a = b by omega]⟩
        rw [hd _ (by omega)] at h1; rw [hd _ (by omega)] at h2; rw [ht _ g3.1] at h3
        rw [g3.2] at R1
        cases hm : minus b <;> rw [hm] at R1 R2
        · have HR1 := Aside0.mk R1; have HR2 := Aside0.mk R2
          clear R1 R2 na nb e sa sb g g3 hd ht hm
          go_enter Try.func25, Try.ntmps25
          go_wp2_with (first | (go_at_call 55; (first | with_reducible refine (HR1.out _).mono ?_ | with_reducible refine (HR2.out _).mono ?_); rintro e w1 ⟨rfl, hb1⟩; have n_ := Aside0.mk (Arr.below_trans HB.out hb1); clear HB; have HB := n_; clear n_ hb1))
          all_goals (go_ret; exact ⟨rfl, HB.out⟩)
        · have HR1 := Aside0.mk R1; have HR2 := Aside0.mk R2
          clear R1 R2 na nb e sa sb g g3 hd ht hm
          go_enter Try.func25, Try.ntmps25
          go_wp2_with (first | (go_at_call 55; (first | with_reducible refine (HR1.out _).mono ?_ | with_reducible refine (HR2.out _).mono ?_); rintro e w1 ⟨rfl, hb1⟩; have n_ := Aside0.mk (Arr.below_trans HB.out hb1); clear HB; have HB := n_; clear n_ hb1))
          all_goals (go_ret; exact ⟨rfl, HB.out⟩)
      · have e : ordF a b = 1 := by unfold ordF; rw [if_neg (by omega), if_pos g]
        rw [e]
        by_cases g2 : keyI b < keyI a
        · rw [hd _ (by omega)] at h1; rw [ht _ g2] at h2; rw [hd _ (by omega)] at h3
          have HR1 := Aside0.mk R1; have HR2 := Aside0.mk R2
          clear R1 R2 na nb e sa sb g g2 hd ht
          go_enter Try.func25, Try.ntmps25
          go_wp2_with (first | (go_at_call 55; (first | with_reducible refine (HR1.out _).mono ?_ | with_reducible refine (HR2.out _).mono ?_); rintro e w1 ⟨rfl, hb1⟩; have n_ := Aside0.mk (Arr.below_trans HB.out hb1); clear HB; have HB := n_; clear n_ hb1))
          all_goals (go_ret; exact ⟨rfl, HB.out⟩)
        · have g3 : keyI a = keyI b ∧ minus a = false ∧ minus b = true := by
            rcases sa with ⟨a1, a2, a3, a4⟩ | ⟨a1, a0, a2, a3, a4⟩ <;> rcases sb with ⟨b1, b2, b3, b4⟩ | ⟨b1, b0, b2, b3, b4⟩
            · omega
            · exact ⟨by omega, a4, by rw [b4]; exact decide_eq_true (by omega)⟩
            · omega
            · omega
          rw [hd _ (by omega)] at h1; rw [hd _ g2] at h2; rw [ht _ g3.1] at h3
          rw [g3.2.1] at R1; rw [g3.2.2] at R2
          have HR1 := Aside0.mk R1; have HR2 := Aside0.mk R2
          clear R1 R2 na nb e sa sb g g2 g3 hd ht
          go_enter Try.func25, Try.ntmps25
          go_wp2_with (first | (go_at_call 55; (first | with_reducible refine (HR1.out _).mono ?_ | with_reducible refine (HR2.out _).mono ?_); rintro e w1 ⟨rfl, hb1⟩; have n_ := Aside0.mk (Arr.below_trans HB.out hb1); clear HB; have HB := n_; clear n_ hb1))
          all_goals (go_ret; exact ⟨rfl, HB.out⟩)
end Go.Proofs.Ytnhlfafdldpdgaa.Cell
