import Derived.Test.YtnhlfafdldpdgaaCellR
/-! Layer 2: the reference's Bytes; math.Inf, math.Copysign; the functions over lists. -/
namespace Go.Proofs.Ytnhlfafdldpdgaa.Cell
open Go Go.RowKit Go.Proofs.Ytnhlfafdldpdgaa.Arr Go.Proofs.Ytnhlfafdldpdgaa.Flt Go.Proofs.YtnhlfafdldpdgaaW.PrintWords Go.Proofs.YtnhlfafdldpdgaaW.PrintLast Go.Proofs.YtnhlfafdldpdgaaW.PrintMore
set_option linter.unusedVariables false
set_option linter.unusedSimpArgs false
attribute [local go_sem] run_bits run_frombits
theorem info_u8 : (Try.prog.info? 5).map (fun i => (i.zero, i.size, i.bytes)) = some (some (.int .u8 0), 1, 1) := by kernel_rfl
/-- The first k bytes, as numbers. -/
def digs (n : Nat) : Nat → List Int
  | 0 => []
  | k + 1 => digs n k ++ [(n : Int) / ((2 ^ (56 - 8 * k) : Nat) : Int) % 256]
theorem digs_len (n k : Nat) : (digs n k).length = k := by
  induction k with
  | zero => rfl
  | succ k ih => simp [digs, ih]
theorem digs_78 (n : Nat) : digs n 8 = digs n 7 ++ [(n : Int) % 256] := by
  rw [digs]; congr 2
  rw [show ((2 ^ (56 - 8 * 7) : Nat) : Int) = 1 from rfl, Int.ediv_one]
theorem digs_8 (n : Nat) : strOfNums (digs n 8) = by8 n := by
  unfold by8 strOfNums
  simp only [digs, List.nil_append, List.cons_append, List.map_cons, List.map_nil]
  simp only [show 2 ^ (56 - 8 * 0) = 72057594037927936 from rfl, show 2 ^ (56 - 8 * 1) = 281474976710656 from rfl, show 2 ^ (56 - 8 * 2) = 1099511627776 from rfl, show 2 ^ (56 - 8 * 3) = 4294967296 from rfl, show 2 ^ (56 - 8 * 4) = 16777216 from rfl, show 2 ^ (56 - 8 * 5) = 65536 from rfl, show 2 ^ (56 - 8 * 6) = 256 from rfl, show 2 ^ (56 - 8 * 7) = 1 from rfl]
  congr 2
  simp only [List.cons.injEq, and_true]
  refine ⟨?_, ?_, ?_, ?_, ?_, ?_, ?_, ?_⟩ <;> congr 1 <;> omega
set_option maxHeartbeats 2000000 in
theorem rbytes_calls (b : Nat) (hb : b < 18446744073709551616) (w : World) : Calls Try.prog 20 #[.float .f64 b] w (Gives (.string (by8 (cn b))) w) := by
  have HB := Aside0.mk (Below.refl w.heap.size w)
  have HN := Aside0.mk (cn_lt hb)
  generalize hn : cn b = n at *
  go_enter Try.func20, Try.ntmps20
  go_upto_region 2 with (go_at_call 21; refine (rbits_calls b _).mono ?_; rintro e w1 ⟨rfl, hb1⟩; have n_ := Aside0.mk (Arr.below_trans HB.out hb1); clear HB; have HB := n_; clear n_ hb1)
  try rw [hn]
  clear hn
  go_upto_region 4 with (fail)
  have ho := own_lit w1 w.heap.size 5 .u8 [] HB.out.size (by decide)
  have n_ := Aside0.mk (HB.out.alloc HB.out.size (.cells (nums .u8 []).toArray 5)); clear HB; have HB := n_; clear n_
  change Code.wp _ _ _ _ (w1.alloc (.cells (nums .u8 []).toArray 5))
  change World.ownsRow _ _ _ _ (.slice (some ⟨w1.heap.size, 0, none⟩) 0 0) 0 (nums .u8 (digs n 0)) at ho
  generalize w1.alloc (.cells (nums .u8 []).toArray 5) = w2 at *
  generalize w1.heap.size = g at *
  have HO := Aside0.mk ho; clear ho
  go_loopw [4, 5] (fun v i wr => ∃ (k : Nat) (x : Int), i = .int .i64 x ∧ x = 56 - 8 * (k : Int) ∧ Aside0 (k ≤ 8) ∧ Aside0 (wr.ownsRow w.heap.size 5 1 v (digs n k).length (nums .u8 (digs n k))) ∧ Aside0 (Below w.heap.size w wr)) (fun _ i _ => (intOf i + 8).toNat)
  case atStart => exact ⟨0, 56, rfl, rfl, ⟨by omega⟩, HO, HB⟩
  case round =>
    clear HO HB
    obtain ⟨k, x, rfl, hx, hk, HO, HB⟩ := hrel
    rcases (show k = 0 ∨ k = 1 ∨ k = 2 ∨ k = 3 ∨ k = 4 ∨ k = 5 ∨ k = 6 ∨ k = 7 ∨ k = 8 by have := hk.out; omega) with rfl | rfl | rfl | rfl | rfl | rfl | rfl | rfl | rfl
    · obtain rfl : x = 56 := hx
      go_wp2_with ((with_reducible refine gate_builtin (b := .append) (xs := #[.tmp 13, .tmp 18]) rfl ?_); at_builtin; refine print_append_num (w0 := w) w.heap.size rfl (.tmp 13) (.tmp 18) 66 5 .u8 1 rfl Try.underlying66 info_u8 (by decide) _ (digs n 0) ((n : Int) / 72057594037927936 % 256) rfl rfl HO.out HB.out HB.out.size (by rw [digs_len]; decide) ?_; intro v1 w7 hown hB7 hg7 hat7)
      have HO7 : Aside0 (w7.ownsRow w.heap.size 5 1 v1 (digs n 1).length (nums .u8 (digs n 1))) := ⟨hown⟩
      have HB7 := Aside0.mk hB7
      clear hown hB7 hg7 hat7
      go_roundw
      case rel => exact ⟨1, 48, rfl, by omega, ⟨by omega⟩, HO7, HB7⟩
      case measure => simp [intOf]
    · obtain rfl : x = 48 := hx
      go_wp2_with ((with_reducible refine gate_builtin (b := .append) (xs := #[.tmp 13, .tmp 18]) rfl ?_); at_builtin; refine print_append_num (w0 := w) w.heap.size rfl (.tmp 13) (.tmp 18) 66 5 .u8 1 rfl Try.underlying66 info_u8 (by decide) _ (digs n 1) ((n : Int) / 281474976710656 % 256) rfl rfl HO.out HB.out HB.out.size (by rw [digs_len]; decide) ?_; intro v1 w7 hown hB7 hg7 hat7)
      have HO7 : Aside0 (w7.ownsRow w.heap.size 5 1 v1 (digs n 2).length (nums .u8 (digs n 2))) := ⟨hown⟩
      have HB7 := Aside0.mk hB7
      clear hown hB7 hg7 hat7
      go_roundw
      case rel => exact ⟨2, 40, rfl, by omega, ⟨by omega⟩, HO7, HB7⟩
      case measure => simp [intOf]
    · obtain rfl : x = 40 := hx
      go_wp2_with ((with_reducible refine gate_builtin (b := .append) (xs := #[.tmp 13, .tmp 18]) rfl ?_); at_builtin; refine print_append_num (w0 := w) w.heap.size rfl (.tmp 13) (.tmp 18) 66 5 .u8 1 rfl Try.underlying66 info_u8 (by decide) _ (digs n 2) ((n : Int) / 1099511627776 % 256) rfl rfl HO.out HB.out HB.out.size (by rw [digs_len]; decide) ?_; intro v1 w7 hown hB7 hg7 hat7)
      have HO7 : Aside0 (w7.ownsRow w.heap.size 5 1 v1 (digs n 3).length (nums .u8 (digs n 3))) := ⟨hown⟩
      have HB7 := Aside0.mk hB7
      clear hown hB7 hg7 hat7
      go_roundw
      case rel => exact ⟨3, 32, rfl, by omega, ⟨by omega⟩, HO7, HB7⟩
      case measure => simp [intOf]
    · obtain rfl : x = 32 := hx
      go_wp2_with ((with_reducible refine gate_builtin (b := .append) (xs := #[.tmp 13, .tmp 18]) rfl ?_); at_builtin; refine print_append_num (w0 := w) w.heap.size rfl (.tmp 13) (.tmp 18) 66 5 .u8 1 rfl Try.underlying66 info_u8 (by decide) _ (digs n 3) ((n : Int) / 4294967296 % 256) rfl rfl HO.out HB.out HB.out.size (by rw [digs_len]; decide) ?_; intro v1 w7 hown hB7 hg7 hat7)
      have HO7 : Aside0 (w7.ownsRow w.heap.size 5 1 v1 (digs n 4).length (nums .u8 (digs n 4))) := ⟨hown⟩
      have HB7 := Aside0.mk hB7
      clear hown hB7 hg7 hat7
      go_roundw
      case rel => exact ⟨4, 24, rfl, by omega, ⟨by omega⟩, HO7, HB7⟩
      case measure => simp [intOf]
    · obtain rfl : x = 24 := hx
      go_wp2_with ((with_reducible refine gate_builtin (b := .append) (xs := #[.tmp 13, .tmp 18]) rfl ?_); at_builtin; refine print_append_num (w0 := w) w.heap.size rfl (.tmp 13) (.tmp 18) 66 5 .u8 1 rfl Try.underlying66 info_u8 (by decide) _ (digs n 4) ((n : Int) / 16777216 % 256) rfl rfl HO.out HB.out HB.out.size (by rw [digs_len]; decide) ?_; intro v1 w7 hown hB7 hg7 hat7)
      have HO7 : Aside0 (w7.ownsRow w.heap.size 5 1 v1 (digs n 5).length (nums .u8 (digs n 5))) := ⟨hown⟩
      have HB7 := Aside0.mk hB7
      clear hown hB7 hg7 hat7
      go_roundw
      case rel => exact ⟨5, 16, rfl, by omega, ⟨by omega⟩, HO7, HB7⟩
      case measure => simp [intOf]
    · obtain rfl : x = 16 := hx
      go_wp2_with ((with_reducible refine gate_builtin (b := .append) (xs := #[.tmp 13, .tmp 18]) rfl ?_); at_builtin; refine print_append_num (w0 := w) w.heap.size rfl (.tmp 13) (.tmp 18) 66 5 .u8 1 rfl Try.underlying66 info_u8 (by decide) _ (digs n 5) ((n : Int) / 65536 % 256) rfl rfl HO.out HB.out HB.out.size (by rw [digs_len]; decide) ?_; intro v1 w7 hown hB7 hg7 hat7)
      have HO7 : Aside0 (w7.ownsRow w.heap.size 5 1 v1 (digs n 6).length (nums .u8 (digs n 6))) := ⟨hown⟩
      have HB7 := Aside0.mk hB7
      clear hown hB7 hg7 hat7
      go_roundw
      case rel => exact ⟨6, 8, rfl, by omega, ⟨by omega⟩, HO7, HB7⟩
      case measure => simp [intOf]
    · obtain rfl : x = 8 := hx
      go_wp2_with ((with_reducible refine gate_builtin (b := .append) (xs := #[.tmp 13, .tmp 18]) rfl ?_); at_builtin; refine print_append_num (w0 := w) w.heap.size rfl (.tmp 13) (.tmp 18) 66 5 .u8 1 rfl Try.underlying66 info_u8 (by decide) _ (digs n 6) ((n : Int) / 256 % 256) rfl rfl HO.out HB.out HB.out.size (by rw [digs_len]; decide) ?_; intro v1 w7 hown hB7 hg7 hat7)
      have HO7 : Aside0 (w7.ownsRow w.heap.size 5 1 v1 (digs n 7).length (nums .u8 (digs n 7))) := ⟨hown⟩
      have HB7 := Aside0.mk hB7
      clear hown hB7 hg7 hat7
      go_roundw
      case rel => exact ⟨7, 0, rfl, by omega, ⟨by omega⟩, HO7, HB7⟩
      case measure => simp [intOf]
    · obtain rfl : x = 0 := hx
      go_wp2_with ((with_reducible refine gate_builtin (b := .append) (xs := #[.tmp 13, .tmp 18]) rfl ?_); at_builtin; refine print_append_num (w0 := w) w.heap.size rfl (.tmp 13) (.tmp 18) 66 5 .u8 1 rfl Try.underlying66 info_u8 (by decide) _ (digs n 7) ((n : Int) % 256) rfl rfl HO.out HB.out HB.out.size (by rw [digs_len]; decide) ?_; intro v1 w7 hown hB7 hg7 hat7)
      have HO7 : Aside0 (w7.ownsRow w.heap.size 5 1 v1 (digs n 8).length (nums .u8 (digs n 8))) := ⟨by rw [digs_78]; exact hown⟩
      have HB7 := Aside0.mk hB7
      clear hown hB7 hg7 hat7
      go_roundw
      case rel => exact ⟨8, -8, rfl, by omega, ⟨by omega⟩, HO7, HB7⟩
      case measure => simp [intOf]
    · obtain rfl : x = -8 := hx
      have cv := own_string (src := 66) (dst := 9) (P := Try.prog) Try.underlying66 Try.underlying5 Try.underlying9 HO.out
      rw [digs_8] at cv
      go_wp2
      go_ret
      exact ⟨rfl, HB.out⟩
def infB (s : Int) : Nat := if 0 ≤ s then 9218868437227405312 else 18442240474082181120
theorem inf_calls (s : Int) (w : World) : Calls Try.prog 32 #[.int .i64 s] w (Gives (.float .f64 (infB s)) w) := by
  have HB := Aside0.mk (Below.refl w.heap.size w)
  unfold infB
  go_enter Try.func32, Try.ntmps32
  go_wp2
  all_goals (go_ret; refine ⟨?_, HB.out⟩)
  all_goals (refine congrArg (fun x => Ending.returned (Value.float .f64 x)) ?_; first | rfl | (rw [if_pos (by omega)]) | (rw [if_neg (by omega)]))
/-- A float as a kind; its 64 bits. -/
abbrev kf : Kd UInt64 := Kd.scalar (fun f => Value.float .f64 f.toNat) (fun _ => rfl)
theorem f_at {w : World} {A : Option Addr} {l : List UInt64} (h : Kd.C kf w A l.length l) (j : Nat) (hj : j < l.length) : ∃ ad, A = some ad ∧ w.cell? (ad.add j) = some (.float .f64 (l[j].toNat)) := by
  obtain ⟨ad, e, hc⟩ := (Kd.reads_of_C (d := (0 : UInt64)) h).2.2 (by omega)
  refine ⟨ad, e, ?_⟩
  rw [hc j hj, List.getD_eq_getElem?_getD, List.getElem?_eq_getElem hj]
  rfl
def sumL (l : List UInt64) : Nat := l.foldl (fun s f => vop .add s f.toNat) 0
def mostL (l : List UInt64) : Nat := l.foldl (fun m f => if 0 < ordF f.toNat m then f.toNat else m) 18442240474082181120
theorem sumL_take (l : List UInt64) (k : Nat) (h : k < l.length) : sumL (l.take (k + 1)) = vop .add (sumL (l.take k)) l[k].toNat := by
  unfold sumL
  rw [List.take_succ_eq_append_getElem h, List.foldl_append]
  rfl
theorem mostL_take (l : List UInt64) (k : Nat) (h : k < l.length) : mostL (l.take (k + 1)) = if 0 < ordF l[k].toNat (mostL (l.take k)) then l[k].toNat else mostL (l.take k) := by
  unfold mostL
  rw [List.take_succ_eq_append_getElem h, List.foldl_append]
  rfl
theorem mostL_lt (l : List UInt64) : mostL l < 18446744073709551616 := by
  unfold mostL
  have : ∀ (l : List UInt64) (m : Nat), m < 18446744073709551616 → l.foldl (fun m f => if 0 < ordF f.toNat m then f.toNat else m) m < 18446744073709551616 := by
    intro l
    induction l with
    | nil => exact fun m h => h
    | cons f r ih =>
      intro m h
      refine ih _ ?_
      show (if 0 < ordF f.toNat m then f.toNat else m) < _
      split
      · exact f.toNat_lt
      · exact h
  exact this l _ (by decide)
theorem sum_calls (A0 : Option Addr) (c0 : Nat) (l : List UInt64) (w : World) (hr : Kd.C kf w A0 l.length l) : Calls Try.prog 28 #[.slice A0 l.length c0] w (Gives (.float .f64 (cn (sumL l))) w) := by
  have hm := Kd.C_max hr
  have HR := Aside0.mk hr; clear hr
  have HB := Aside0.mk (Below.refl w.heap.size w)
  go_enter Try.func28, Try.ntmps28
  go_upto_region 2 with (fail)
  go_loopw [2, 7] (fun v i wr => ∃ (k b : Nat), i = .int .i64 k ∧ v = .float .f64 b ∧ Aside0 (k ≤ l.length) ∧ Aside0 (cn b = cn (sumL (l.take k))) ∧ Aside0 (b < 18446744073709551616) ∧ Aside0 (Below w.heap.size w wr)) (fun _ i _ => l.length - (intOf i).toNat)
  case atStart => exact ⟨0, 0, rfl, rfl, ⟨by omega⟩, ⟨rfl⟩, ⟨by decide⟩, HB⟩
  case round =>
    clear HB
    obtain ⟨k, b, rfl, rfl, K, C, L, HB⟩ := hrel
    by_cases hlt : (k : Int) < (l.length : Int)
    · have hk : k < l.length := by omega
      have h0 : (0 : Int) ≤ (k : Int) := by omega
      obtain ⟨ad, rfl, hc⟩ := f_at HR.out k hk
      replace hc := pw_cell_below HB.out hc
      obtain ⟨b1, w2, hrun, hcn, hl, hb2⟩ := run_op (P := Try.prog) wr .add 22 b l[k].toNat (Or.inl rfl)
      have C2 : Aside0 (cn b1 = cn (sumL (l.take (k + 1)))) := ⟨by rw [hcn, sumL_take l k hk, cn_vop, vop_l C.out]⟩
      have L2 := Aside0.mk hl
      have HB2 := Aside0.mk (Arr.below_trans HB.out hb2)
      have hwk : wrap64 ((k : Int) + 1) = ((k + 1 : Nat) : Int) := by unfold wrap64; omega
      clear hcn hl hb2 C
      go_wp2
      go_roundw
      case rel => exact ⟨k + 1, b1, by first | rw [hwk] | go_num, rfl, ⟨by omega⟩, C2, L2, HB2⟩
      case measure =>
        try rw [hwk]
        simp [intOf]; omega
    · obtain rfl : k = l.length := by have := K.out; omega
      rw [List.take_length] at C
      clear hlt
      go_wp2_with (go_at_call 53; refine (canon_calls b _).mono ?_; rintro e w1 ⟨rfl, hb1⟩; have n_ := Aside0.mk (Arr.below_trans HB.out hb1); clear HB; have HB := n_; clear n_ hb1)
      go_ret
      exact ⟨congrArg (fun x => Ending.returned (Value.float .f64 x)) C.out, HB.out⟩
theorem rsum_calls (A0 : Option Addr) (c0 : Nat) (l : List UInt64) (w : World) (hr : Kd.C kf w A0 l.length l) : Calls Try.prog 31 #[.slice A0 l.length c0] w (Gives (.float .f64 (cn (sumL l))) w) := by
  have hm := Kd.C_max hr
  have HR := Aside0.mk hr; clear hr
  have HB := Aside0.mk (Below.refl w.heap.size w)
  go_enter Try.func31, Try.ntmps31
  go_upto_region 3 with (fail)
  go_loopw [3, 4] (fun v i wr => ∃ (k b : Nat), i = .int .i64 k ∧ v = .float .f64 b ∧ Aside0 (k ≤ l.length) ∧ Aside0 (cn b = cn (sumL (l.take k))) ∧ Aside0 (b < 18446744073709551616) ∧ Aside0 (Below w.heap.size w wr)) (fun _ i _ => l.length - (intOf i).toNat)
  case atStart => exact ⟨0, 0, rfl, rfl, ⟨by omega⟩, ⟨rfl⟩, ⟨by decide⟩, HB⟩
  case round =>
    clear HB
    obtain ⟨k, b, rfl, rfl, K, C, L, HB⟩ := hrel
    by_cases hlt : (k : Int) < (l.length : Int)
    · have hk : k < l.length := by omega
      have h0 : (0 : Int) ≤ (k : Int) := by omega
      obtain ⟨ad, rfl, hc⟩ := f_at HR.out k hk
      replace hc := pw_cell_below HB.out hc
      obtain ⟨b1, w2, hrun, hcn, hl, hb2⟩ := run_op (P := Try.prog) wr .add 22 b l[k].toNat (Or.inl rfl)
      have C2 : Aside0 (cn b1 = cn (sumL (l.take (k + 1)))) := ⟨by rw [hcn, sumL_take l k hk, cn_vop, vop_l C.out]⟩
      have L2 := Aside0.mk hl
      have HB2 := Aside0.mk (Arr.below_trans HB.out hb2)
      have hwk : wrap64 ((k : Int) + 1) = ((k + 1 : Nat) : Int) := by unfold wrap64; omega
      clear hcn hl hb2 C
      go_wp2
      go_roundw
      case rel => exact ⟨k + 1, b1, by first | rw [hwk] | go_num, rfl, ⟨by omega⟩, C2, L2, HB2⟩
      case measure =>
        try rw [hwk]
        simp [intOf]; omega
    · obtain rfl : k = l.length := by have := K.out; omega
      rw [List.take_length] at C
      clear hlt
      go_wp2_with (go_at_call 21; refine (rbits_calls b _).mono ?_; rintro e w1 ⟨rfl, hb1⟩; have n_ := Aside0.mk (Arr.below_trans HB.out hb1); clear HB; have HB := n_; clear n_ hb1)
      go_ret
      exact ⟨congrArg (fun x => Ending.returned (Value.float .f64 x)) C.out, HB.out⟩
theorem most_calls (A0 : Option Addr) (c0 : Nat) (l : List UInt64) (w : World) (hr : Kd.C kf w A0 l.length l) : Calls Try.prog 29 #[.slice A0 l.length c0] w (Gives (.float .f64 (cn (mostL l))) w) := by
  have hm := Kd.C_max hr
  have HR := Aside0.mk hr; clear hr
  have HB := Aside0.mk (Below.refl w.heap.size w)
  go_enter Try.func29, Try.ntmps29
  go_upto_region 3 with (go_at_call 32; refine (inf_calls (-1) _).mono ?_; rintro e w1 ⟨rfl, hb1⟩; have n_ := Aside0.mk (Arr.below_trans HB.out hb1); clear HB; have HB := n_; clear n_ hb1)
  go_loopw [3, 9] (fun v i wr => ∃ k : Nat, i = .int .i64 k ∧ v = .float .f64 (mostL (l.take k)) ∧ Aside0 (k ≤ l.length) ∧ Aside0 (Below w.heap.size w wr)) (fun _ i _ => l.length - (intOf i).toNat)
  case atStart => exact ⟨0, rfl, rfl, ⟨by omega⟩, HB⟩
  case round =>
    clear HB
    obtain ⟨k, rfl, rfl, K, HB⟩ := hrel
    by_cases hlt : (k : Int) < (l.length : Int)
    · have hk : k < l.length := by omega
      have h0 : (0 : Int) ≤ (k : Int) := by omega
      obtain ⟨ad, rfl, hc⟩ := f_at HR.out k hk
      replace hc := pw_cell_below HB.out hc
      have hwk : wrap64 ((k : Int) + 1) = ((k + 1 : Nat) : Int) := by unfold wrap64; omega
      have hL : l[k].toNat < 18446744073709551616 := l[k].toNat_lt
      have HM := Aside0.mk (mostL_take l k hk)
      have HL := Aside0.mk (mostL_lt (l.take k)); have HF := Aside0.mk hL
      clear hL
      generalize mostL (l.take k) = m at *
      generalize l[k].toNat = f at *
      by_cases ho : 0 < ordF f m
      · rw [if_pos ho] at HM
        go_wp2_with (go_at_call 25; refine (order_calls f m HF.out HL.out _).mono ?_; rintro e w1 ⟨rfl, hb1⟩; have n_ := Aside0.mk (Arr.below_trans HB.out hb1); replace hc := pw_cell_below hb1 hc; clear HB; have HB := n_; clear n_ hb1)
        go_roundw
        case rel => exact ⟨k + 1, by first | rw [hwk] | go_num, by rw [HM.out], ⟨by omega⟩, HB⟩
        case measure =>
          try rw [hwk]
          simp [intOf]; omega
      · rw [if_neg ho] at HM
        go_wp2_with (go_at_call 25; refine (order_calls f m HF.out HL.out _).mono ?_; rintro e w1 ⟨rfl, hb1⟩; have n_ := Aside0.mk (Arr.below_trans HB.out hb1); replace hc := pw_cell_below hb1 hc; clear HB; have HB := n_; clear n_ hb1)
        go_roundw
        case rel => exact ⟨k + 1, by first | rw [hwk] | go_num, by rw [HM.out], ⟨by omega⟩, HB⟩
        case measure =>
          try rw [hwk]
          simp [intOf]; omega
    · obtain rfl : k = l.length := by have := K.out; omega
      rw [List.take_length]
      clear hlt
      go_wp2_with (go_at_call 53; refine (canon_calls (mostL l) _).mono ?_; rintro e w1 ⟨rfl, hb1⟩; have n_ := Aside0.mk (Arr.below_trans HB.out hb1); clear HB; have HB := n_; clear n_ hb1)
      go_ret
      exact ⟨rfl, HB.out⟩
theorem rmost_calls (A0 : Option Addr) (c0 : Nat) (l : List UInt64) (w : World) (hr : Kd.C kf w A0 l.length l) : Calls Try.prog 30 #[.slice A0 l.length c0] w (Gives (.float .f64 (cn (mostL l))) w) := by
  have hm := Kd.C_max hr
  have HR := Aside0.mk hr; clear hr
  have HB := Aside0.mk (Below.refl w.heap.size w)
  go_enter Try.func30, Try.ntmps30
  go_upto_region 3 with (go_at_call 32; refine (inf_calls (-1) _).mono ?_; rintro e w1 ⟨rfl, hb1⟩; have n_ := Aside0.mk (Arr.below_trans HB.out hb1); clear HB; have HB := n_; clear n_ hb1)
  go_loopw [3, 4] (fun v i wr => ∃ k : Nat, i = .int .i64 k ∧ v = .float .f64 (mostL (l.take k)) ∧ Aside0 (k ≤ l.length) ∧ Aside0 (Below w.heap.size w wr)) (fun _ i _ => l.length - (intOf i).toNat)
  case atStart => exact ⟨0, rfl, rfl, ⟨by omega⟩, HB⟩
  case round =>
    clear HB
    obtain ⟨k, rfl, rfl, K, HB⟩ := hrel
    by_cases hlt : (k : Int) < (l.length : Int)
    · have hk : k < l.length := by omega
      have h0 : (0 : Int) ≤ (k : Int) := by omega
      obtain ⟨ad, rfl, hc⟩ := f_at HR.out k hk
      replace hc := pw_cell_below HB.out hc
      have hwk : wrap64 ((k : Int) + 1) = ((k + 1 : Nat) : Int) := by unfold wrap64; omega
      have hL : l[k].toNat < 18446744073709551616 := l[k].toNat_lt
      have HM := Aside0.mk (mostL_take l k hk)
      have HL := Aside0.mk (mostL_lt (l.take k)); have HF := Aside0.mk hL
      clear hL
      generalize mostL (l.take k) = m at *
      generalize l[k].toNat = f at *
      by_cases ho : 0 < ordF f m
      · rw [if_pos ho] at HM
        go_wp2_with (go_at_call 26; refine (rorder_calls f m HF.out HL.out _).mono ?_; rintro e w1 ⟨rfl, hb1⟩; have n_ := Aside0.mk (Arr.below_trans HB.out hb1); replace hc := pw_cell_below hb1 hc; clear HB; have HB := n_; clear n_ hb1)
        go_roundw
        case rel => exact ⟨k + 1, by first | rw [hwk] | go_num, by rw [HM.out], ⟨by omega⟩, HB⟩
        case measure =>
          try rw [hwk]
          simp [intOf]; omega
      · rw [if_neg ho] at HM
        go_wp2_with (go_at_call 26; refine (rorder_calls f m HF.out HL.out _).mono ?_; rintro e w1 ⟨rfl, hb1⟩; have n_ := Aside0.mk (Arr.below_trans HB.out hb1); replace hc := pw_cell_below hb1 hc; clear HB; have HB := n_; clear n_ hb1)
        go_roundw
        case rel => exact ⟨k + 1, by first | rw [hwk] | go_num, by rw [HM.out], ⟨by omega⟩, HB⟩
        case measure =>
          try rw [hwk]
          simp [intOf]; omega
    · obtain rfl : k = l.length := by have := K.out; omega
      rw [List.take_length]
      clear hlt
      go_wp2_with (go_at_call 21; refine (rbits_calls (mostL l) _).mono ?_; rintro e w1 ⟨rfl, hb1⟩; have n_ := Aside0.mk (Arr.below_trans HB.out hb1); clear HB; have HB := n_; clear n_ hb1)
      go_ret
      exact ⟨rfl, HB.out⟩
end Go.Proofs.Ytnhlfafdldpdgaa.Cell
