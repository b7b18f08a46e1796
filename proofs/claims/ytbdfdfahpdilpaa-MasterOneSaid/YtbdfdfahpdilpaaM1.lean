import Derived.Test.YtbdfdfahpdilpaaUnp
import Derived.Test.YtbdfdfahpdilpaaZA
import Derived.Test.YtbdfdfahpdilpaaZB
/-! Layer 12: master: there, one. -/
namespace Go.Proofs.Ytbdfdfahpdilpaa.X12
open Go Go.RowKit Go.ChangeMaps Go.Proofs.Ytbdfdfahpdilpaa.Arr Go.Proofs.Ytbdfdfahpdilpaa.Mp Go.Proofs.Ytbdfdfahpdilpaa.Ow Go.Proofs.Ytbdfdfahpdilpaa.Dk Go.Proofs.Ytbdfdfahpdilpaa.Slab Go.Proofs.YtbdfdfahpdilpaaW.PrintWords Go.Proofs.YtbdfdfahpdilpaaW.PrintLast Go.Proofs.YtbdfdfahpdilpaaW.PrintMore
set_option linter.unusedVariables false
set_option linter.unusedSimpArgs false
def mayM (c l : Int) : Bool := decide (0 ≤ c) && decide (c ≤ 2147483647) && decide (1 ≤ l) && decide (l ≤ 2147483647)
theorem may_eq (c l : Int) : master_may.f c l = some (mayM c l) := by
  unfold master_may.f mayM
  by_cases h1 : c ≥ 0
  · by_cases h2 : c ≤ 2147483647
    · by_cases h3 : l ≥ 1
      · rw [if_pos h1, if_pos h2, if_pos h3, decide_eq_true h1, decide_eq_true h2, decide_eq_true h3]; simp
      · rw [if_pos h1, if_pos h2, if_neg h3, decide_eq_true h1, decide_eq_true h2, decide_eq_false (p := 1 ≤ l) (by omega)]; simp
    · rw [if_pos h1, if_neg h2, decide_eq_true h1, decide_eq_false h2]; simp
  · rw [if_neg h1, decide_eq_false (p := 0 ≤ c) (by omega)]; simp
theorem may_calls (c l : Int) (w : World) : Calls Try.prog 52 #[.agg #[.int .i64 c, .int .i64 l]] w fun e w' => e = .returned (.bool (mayM c l)) ∧ Below w.heap.size w w' := master_may.calls c l _ w (may_eq c l)
theorem refmay_calls (c l : Int) (w : World) : Calls Try.prog 36 #[.agg #[.int .i64 c, .int .i64 l]] w fun e w' => e = .returned (.bool (mayM c l)) ∧ Below w.heap.size w w' := careenref12_May.calls c l _ w (may_eq c l)
def bothE (d : DS) (base : Int) : Int := if base < 0 ∨ (d.safe.length : Int) - 2 < base then 1 else 0
theorem mthere_nil (base : Int) (w : World) : Calls Try.prog 50 #[.pointer none, .int .i64 base] w fun e w' => e = .returned (.int .i64 10) ∧ Below w.heap.size w w' := by
  go_enter Try.func50, Try.ntmps50
  go_wp2
  go_ret
  exact ⟨rfl, Below.refl _ _⟩
theorem mthere_calls (d : DS) (g : Nat) (base : Int) (S : Nat → Prop) (w : World) (h : DK w S g d) (ho : OkD d) : Calls Try.prog 50 #[.pointer (some ⟨g, 0, none⟩), .int .i64 base] w fun e w' => e = .returned (.int .i64 (bothE d base)) ∧ Below w.heap.size w w' := by
  have HK := Aside0.mk h; clear h
  have hl : d.safe.length ≤ 512 := ho.2.2.2.1
  have hw : wrap64 ((d.safe.length : Int) - 2) = (d.safe.length : Int) - 2 := by unfold wrap64; omega
  clear ho hl
  by_cases h0 : base < 0
  · have e : bothE d base = 1 := by unfold bothE; rw [if_pos (.inl h0)]
    rw [e]
    clear e hw
    go_enter Try.func50, Try.ntmps50
    go_wp2
    go_ret
    exact ⟨rfl, Below.refl _ _⟩
  · by_cases h1 : (d.safe.length : Int) - 2 < base
    · have e : bothE d base = 1 := by unfold bothE; rw [if_pos (.inr h1)]
      rw [e]
      clear e
      go_enter Try.func50, Try.ntmps50
      go_wp2_with (go_at_call 31; (with_reducible refine (size_calls _ _ _ _ HK.out).mono ?_); rintro e w1 ⟨rfl, hb1⟩; have F := Aside0.mk hb1; clear hb1)
      go_ret
      exact ⟨rfl, F.out⟩
    · have e : bothE d base = 0 := by unfold bothE; rw [if_neg (by omega)]
      rw [e]
      clear e
      go_enter Try.func50, Try.ntmps50
      go_wp2_with (go_at_call 31; (with_reducible refine (size_calls _ _ _ _ HK.out).mono ?_); rintro e w1 ⟨rfl, hb1⟩; have F := Aside0.mk hb1; clear hb1)
      go_ret
      exact ⟨rfl, F.out⟩
/-- What a sector tells of a master: its numbers, its ticket, and whether it is one. -/
structure MR where
  c : Int
  l : Int
  t : Int
  ok : Bool
def goodB (u : Int × Int × ByteArray × Int) : Bool := decide (u.2.2.2 = 0) && decide (u.2.1 = 0) && decide (u.2.2.1.size = 8)
def oneB (s : ByteArray) : MR := if goodB (unpackF s) = true then ⟨numB (unpackF s).2.2.1, numB ((unpackF s).2.2.1.extract 4 8), (unpackF s).1, mayM (numB (unpackF s).2.2.1) (numB ((unpackF s).2.2.1.extract 4 8))⟩ else ⟨0, 0, 0, false⟩
def oneD (d : DS) (i : Int) : MR := if readE d i ≠ 0 then ⟨0, 0, 0, false⟩ else oneB (readS d i)
def numK (s : ByteArray) (o : Nat) : Nat → Int
  | 0 => 0
  | k + 1 => numK s o k * 256 + bt s ((o + k : Nat) : Int)
theorem numK_range (s : ByteArray) (o : Nat) (k : Nat) : 0 ≤ numK s o k ∧ numK s o k < 256 ^ k := by
  induction k with
  | zero => exact ⟨Int.le_refl _, by show (0 : Int) < 1; decide⟩
  | succ k ih =>
    have hb := bt_range s ((o + k : Nat) : Int)
    show 0 ≤ numK s o k * 256 + bt s ((o + k : Nat) : Int) ∧ numK s o k * 256 + bt s ((o + k : Nat) : Int) < 256 ^ (k + 1)
    rw [Int.pow_succ]
    omega
theorem numK4 (s : ByteArray) : numK s 0 4 = numB s := by
  show (((0 * 256 + bt s 0) * 256 + bt s 1) * 256 + bt s 2) * 256 + bt s 3 = _
  unfold numB
  omega
theorem numK44 (s : ByteArray) (h : s.size = 8) : numK s 4 4 = numB (s.extract 4 8) := by
  rw [numB_cut s 4 8 (by omega) (by omega)]
  have a := bt_bl s 4 (by omega); have b := bt_bl s 5 (by omega); have c := bt_bl s 6 (by omega); have e := bt_bl s 7 (by omega)
  show (((0 * 256 + bt s ((4 + 0 : Nat) : Int)) * 256 + bt s ((4 + 1 : Nat) : Int)) * 256 + bt s ((4 + 2 : Nat) : Int)) * 256 + bt s ((4 + 3 : Nat) : Int) = _
  rw [show bt s ((4 + 0 : Nat) : Int) = _ from a, show bt s ((4 + 1 : Nat) : Int) = _ from b, show bt s ((4 + 2 : Nat) : Int) = _ from c, show bt s ((4 + 3 : Nat) : Int) = _ from e]
  unfold num4
  simp only [Nat.reduceAdd]
  omega
theorem or_num (B : ByteArray) (o k j : Nat) (hk : k < 4) (hj : j = o + k) (h : j < B.size) : bits .or .i64 (wrap64 (numK B o k * 256)) (wrap64 ((B[j]'h).toNat : Int)) = numK B o (k + 1) := by
  have h1 := numK_range B o k
  have h2 : (256 : Int) ^ k ≤ 16777216 := by
    rcases (show k = 0 ∨ k = 1 ∨ k = 2 ∨ k = 3 by omega) with rfl | rfl | rfl | rfl <;> decide
  have h3 := (B[j]'h).toNat_lt
  have h4 : bt B ((o + k : Nat) : Int) = ((B[j]'h).toNat : Int) := by
    subst hj
    have e : (((o + k : Nat) : Int)).toNat = o + k := Int.toNat_natCast _
    unfold bt
    rw [dif_pos (by rw [e]; exact h)]
    simp only [e]
  show _ = numK B o k * 256 + bt B ((o + k : Nat) : Int)
  rw [h4, w64 (x := numK B o k * 256) (by omega) (by omega), w64 (by omega) (by omega), or64 _ _ (by omega) (by omega) (by omega) (by omega)]
theorem unpack_range (s : ByteArray) : 0 ≤ (unpackF s).1 ∧ (unpackF s).1 < 4294967296 := by
  unfold unpackF
  split
  · exact numB_range s
  · exact ⟨by decide, by decide⟩
set_option maxHeartbeats 8000000 in
set_option maxRecDepth 20000 in
theorem one_calls (d : DS) (g : Nat) (i : Int) (S : Nat → Prop) (w : World) (h : DK w S g d) (ho : OkD d) : Calls Try.prog 51 #[.pointer (some ⟨g, 0, none⟩), .int .i64 i] w fun e w' => e = .returned (.tuple #[.agg #[.int .i64 (oneD d i).c, .int .i64 (oneD d i).l], .int .u32 (oneD d i).t, .bool (oneD d i).ok]) ∧ Below w.heap.size w w' := by
  have HK := Aside0.mk h; have HO := Aside0.mk ho; clear h ho
  by_cases hre : readE d i = 0
  · have hrb : (readE d i == 0) = true := by simp [hre]
    have e1 : oneD d i = oneB (readS d i) := by unfold oneD; rw [if_neg (by simp [hre])]
    rw [e1]
    clear e1
    obtain ⟨⟨E, I, B, R⟩, hu⟩ : ∃ u, unpackF (readS d i) = u := ⟨_, rfl⟩
    have hE := unpack_range (readS d i)
    rw [hu] at hE
    simp only at hE
    have hun : ∀ w, Calls Try.prog 57 #[.string (readS d i)] w fun e w' => e = .returned (.tuple #[.agg #[.int .u32 E, .int .u32 I, .string B], .int .i64 R]) ∧ Below w.heap.size w w' := fun w => by
      have := unpack_calls (readS d i) w
      rw [hu] at this
      exact this
    have hone : oneB (readS d i) = if goodB (E, I, B, R) = true then ⟨numB B, numB (B.extract 4 8), E, mayM (numB B) (numB (B.extract 4 8))⟩ else ⟨0, 0, 0, false⟩ := by
      unfold oneB
      rw [hu]
    rw [hone]
    clear hone hu hre
    by_cases hc0 : ¬ R = 0
    · rw [if_neg (by unfold goodB; simp [hc0])]
      have b0 : (R == 0) = false := by simp; omega
      go_enter Try.func51, Try.ntmps51
      go_upto_region 1 with (fail)
      have hta := heap_alloc_new w (.cells #[.int .i64 0, .int .i64 0] 61)
      have hbb := (Below.refl w.heap.size w).alloc (Nat.le_refl _) (.cells #[.int .i64 0, .int .i64 0] 61)
      have hk1 := HK.out.below hbb
      clear HK
      have HK := Aside0.mk hk1; have F := Aside0.mk hbb; have HT := Aside0.mk hta
      have HWL := Aside0.mk (show w.heap.size + 1 ≤ (w.alloc (.cells #[.int .i64 0, .int .i64 0] 61)).heap.size by simp)
      clear hk1 hbb hta
      generalize w.alloc (.cells #[.int .i64 0, .int .i64 0] 61) = W at *
      go_wp2_with (first | (go_at_call 19; (with_reducible refine (read_calls _ _ _ _ _ HK.out HO.out).mono ?_); rintro e w1 ⟨rfl, hb1⟩; have F_n := Aside0.mk (Arr.below_trans F.out hb1); have HT_n := Aside0.mk (blk_below HT.out hb1); clear F HT HK hb1; have F := F_n; have HT := HT_n; clear F_n HT_n; have t0 : w1.cell? ⟨w.heap.size, 0, none⟩ = some (.int .i64 0) := blk_cell HT.out 0; have t1 : w1.cell? ⟨w.heap.size, 1, none⟩ = some (.int .i64 0) := blk_cell HT.out 1; have f0 := blk_frozen HT.out 0; have f1 := blk_frozen HT.out 1) | (go_at_call 57; (with_reducible refine (hun _).mono ?_); rintro e w1 ⟨rfl, hb1⟩; have F_n := Aside0.mk (Arr.below_trans F.out hb1); have HT_n := Aside0.mk (blk_below HT.out hb1); clear F HT hb1 t0 t1 f0 f1; have F := F_n; have HT := HT_n; clear F_n HT_n; have hb2 := (Below.refl w1.heap.size w1).alloc (Nat.le_refl _) (.cells #[.int .u32 E, .int .u32 I, .string B] 99); have F_n := Aside0.mk (Arr.below_trans F.out hb2); have HT_n := Aside0.mk (blk_below HT.out hb2); clear F HT hb2; have F := F_n; have HT := HT_n; clear F_n HT_n; have t0 : (w1.alloc (.cells #[.int .u32 E, .int .u32 I, .string B] 99)).cell? ⟨w.heap.size, 0, none⟩ = some (.int .i64 0) := blk_cell HT.out 0; have t1 : (w1.alloc (.cells #[.int .u32 E, .int .u32 I, .string B] 99)).cell? ⟨w.heap.size, 1, none⟩ = some (.int .i64 0) := blk_cell HT.out 1; have f0 := blk_frozen HT.out 0; have f1 := blk_frozen HT.out 1; have HSL := Aside0.mk (heap_alloc_new w1 (.cells #[.int .u32 E, .int .u32 I, .string B] 99)); have s0 : (w1.alloc (.cells #[.int .u32 E, .int .u32 I, .string B] 99)).cell? ⟨w1.heap.size, 0, none⟩ = some _ := blk_cell HSL.out 0; have s1 : (w1.alloc (.cells #[.int .u32 E, .int .u32 I, .string B] 99)).cell? ⟨w1.heap.size, 1, none⟩ = some _ := blk_cell HSL.out 1; have s2 : (w1.alloc (.cells #[.int .u32 E, .int .u32 I, .string B] 99)).cell? ⟨w1.heap.size, 2, none⟩ = some _ := blk_cell HSL.out 2))
      refine bodyPost_ret (results_ctt rfl _ _ _ _ _ _ _ rfl (set_blk (set_blk HT.out 0 _) 1 _) Try.underlying61 rfl rfl) rfl ⟨rfl, ?_⟩
      exact (F.out.setCell (p := ⟨w.heap.size, 0, none⟩) (Nat.le_refl _) _).setCell (p := ⟨w.heap.size, 1, none⟩) (Nat.le_refl _) _
    obtain rfl : R = 0 := Decidable.not_not.1 hc0
    by_cases hc1 : ¬ I = 0
    · rw [if_neg (by unfold goodB; simp [hc1])]
      have b1 : (I == 0) = false := by simp; omega
      go_enter Try.func51, Try.ntmps51
      go_upto_region 1 with (fail)
      have hta := heap_alloc_new w (.cells #[.int .i64 0, .int .i64 0] 61)
      have hbb := (Below.refl w.heap.size w).alloc (Nat.le_refl _) (.cells #[.int .i64 0, .int .i64 0] 61)
      have hk1 := HK.out.below hbb
      clear HK
      have HK := Aside0.mk hk1; have F := Aside0.mk hbb; have HT := Aside0.mk hta
      have HWL := Aside0.mk (show w.heap.size + 1 ≤ (w.alloc (.cells #[.int .i64 0, .int .i64 0] 61)).heap.size by simp)
      clear hk1 hbb hta
      generalize w.alloc (.cells #[.int .i64 0, .int .i64 0] 61) = W at *
      go_wp2_with (first | (go_at_call 19; (with_reducible refine (read_calls _ _ _ _ _ HK.out HO.out).mono ?_); rintro e w1 ⟨rfl, hb1⟩; have F_n := Aside0.mk (Arr.below_trans F.out hb1); have HT_n := Aside0.mk (blk_below HT.out hb1); clear F HT HK hb1; have F := F_n; have HT := HT_n; clear F_n HT_n; have t0 : w1.cell? ⟨w.heap.size, 0, none⟩ = some (.int .i64 0) := blk_cell HT.out 0; have t1 : w1.cell? ⟨w.heap.size, 1, none⟩ = some (.int .i64 0) := blk_cell HT.out 1; have f0 := blk_frozen HT.out 0; have f1 := blk_frozen HT.out 1) | (go_at_call 57; (with_reducible refine (hun _).mono ?_); rintro e w1 ⟨rfl, hb1⟩; have F_n := Aside0.mk (Arr.below_trans F.out hb1); have HT_n := Aside0.mk (blk_below HT.out hb1); clear F HT hb1 t0 t1 f0 f1; have F := F_n; have HT := HT_n; clear F_n HT_n; have hb2 := (Below.refl w1.heap.size w1).alloc (Nat.le_refl _) (.cells #[.int .u32 E, .int .u32 I, .string B] 99); have F_n := Aside0.mk (Arr.below_trans F.out hb2); have HT_n := Aside0.mk (blk_below HT.out hb2); clear F HT hb2; have F := F_n; have HT := HT_n; clear F_n HT_n; have t0 : (w1.alloc (.cells #[.int .u32 E, .int .u32 I, .string B] 99)).cell? ⟨w.heap.size, 0, none⟩ = some (.int .i64 0) := blk_cell HT.out 0; have t1 : (w1.alloc (.cells #[.int .u32 E, .int .u32 I, .string B] 99)).cell? ⟨w.heap.size, 1, none⟩ = some (.int .i64 0) := blk_cell HT.out 1; have f0 := blk_frozen HT.out 0; have f1 := blk_frozen HT.out 1; have HSL := Aside0.mk (heap_alloc_new w1 (.cells #[.int .u32 E, .int .u32 I, .string B] 99)); have s0 : (w1.alloc (.cells #[.int .u32 E, .int .u32 I, .string B] 99)).cell? ⟨w1.heap.size, 0, none⟩ = some _ := blk_cell HSL.out 0; have s1 : (w1.alloc (.cells #[.int .u32 E, .int .u32 I, .string B] 99)).cell? ⟨w1.heap.size, 1, none⟩ = some _ := blk_cell HSL.out 1; have s2 : (w1.alloc (.cells #[.int .u32 E, .int .u32 I, .string B] 99)).cell? ⟨w1.heap.size, 2, none⟩ = some _ := blk_cell HSL.out 2))
      refine bodyPost_ret (results_ctt rfl _ _ _ _ _ _ _ rfl (set_blk (set_blk HT.out 0 _) 1 _) Try.underlying61 rfl rfl) rfl ⟨rfl, ?_⟩
      exact (F.out.setCell (p := ⟨w.heap.size, 0, none⟩) (Nat.le_refl _) _).setCell (p := ⟨w.heap.size, 1, none⟩) (Nat.le_refl _) _
    obtain rfl : I = 0 := Decidable.not_not.1 hc1
    by_cases hc2 : ¬ B.size = 8
    · rw [if_neg (by unfold goodB; simp [hc2])]
      have b2 : ((B.size : Int) == 8) = false := by simp; omega
      go_enter Try.func51, Try.ntmps51
      go_upto_region 1 with (fail)
      have hta := heap_alloc_new w (.cells #[.int .i64 0, .int .i64 0] 61)
      have hbb := (Below.refl w.heap.size w).alloc (Nat.le_refl _) (.cells #[.int .i64 0, .int .i64 0] 61)
      have hk1 := HK.out.below hbb
      clear HK
      have HK := Aside0.mk hk1; have F := Aside0.mk hbb; have HT := Aside0.mk hta
      have HWL := Aside0.mk (show w.heap.size + 1 ≤ (w.alloc (.cells #[.int .i64 0, .int .i64 0] 61)).heap.size by simp)
      clear hk1 hbb hta
      generalize w.alloc (.cells #[.int .i64 0, .int .i64 0] 61) = W at *
      go_wp2_with (first | (go_at_call 19; (with_reducible refine (read_calls _ _ _ _ _ HK.out HO.out).mono ?_); rintro e w1 ⟨rfl, hb1⟩; have F_n := Aside0.mk (Arr.below_trans F.out hb1); have HT_n := Aside0.mk (blk_below HT.out hb1); clear F HT HK hb1; have F := F_n; have HT := HT_n; clear F_n HT_n; have t0 : w1.cell? ⟨w.heap.size, 0, none⟩ = some (.int .i64 0) := blk_cell HT.out 0; have t1 : w1.cell? ⟨w.heap.size, 1, none⟩ = some (.int .i64 0) := blk_cell HT.out 1; have f0 := blk_frozen HT.out 0; have f1 := blk_frozen HT.out 1) | (go_at_call 57; (with_reducible refine (hun _).mono ?_); rintro e w1 ⟨rfl, hb1⟩; have F_n := Aside0.mk (Arr.below_trans F.out hb1); have HT_n := Aside0.mk (blk_below HT.out hb1); clear F HT hb1 t0 t1 f0 f1; have F := F_n; have HT := HT_n; clear F_n HT_n; have hb2 := (Below.refl w1.heap.size w1).alloc (Nat.le_refl _) (.cells #[.int .u32 E, .int .u32 0, .string B] 99); have F_n := Aside0.mk (Arr.below_trans F.out hb2); have HT_n := Aside0.mk (blk_below HT.out hb2); clear F HT hb2; have F := F_n; have HT := HT_n; clear F_n HT_n; have t0 : (w1.alloc (.cells #[.int .u32 E, .int .u32 0, .string B] 99)).cell? ⟨w.heap.size, 0, none⟩ = some (.int .i64 0) := blk_cell HT.out 0; have t1 : (w1.alloc (.cells #[.int .u32 E, .int .u32 0, .string B] 99)).cell? ⟨w.heap.size, 1, none⟩ = some (.int .i64 0) := blk_cell HT.out 1; have f0 := blk_frozen HT.out 0; have f1 := blk_frozen HT.out 1; have HSL := Aside0.mk (heap_alloc_new w1 (.cells #[.int .u32 E, .int .u32 0, .string B] 99)); have s0 : (w1.alloc (.cells #[.int .u32 E, .int .u32 0, .string B] 99)).cell? ⟨w1.heap.size, 0, none⟩ = some _ := blk_cell HSL.out 0; have s1 : (w1.alloc (.cells #[.int .u32 E, .int .u32 0, .string B] 99)).cell? ⟨w1.heap.size, 1, none⟩ = some _ := blk_cell HSL.out 1; have s2 : (w1.alloc (.cells #[.int .u32 E, .int .u32 0, .string B] 99)).cell? ⟨w1.heap.size, 2, none⟩ = some _ := blk_cell HSL.out 2))
      refine bodyPost_ret (results_ctt rfl _ _ _ _ _ _ _ rfl (set_blk (set_blk HT.out 0 _) 1 _) Try.underlying61 rfl rfl) rfl ⟨rfl, ?_⟩
      exact (F.out.setCell (p := ⟨w.heap.size, 0, none⟩) (Nat.le_refl _) _).setCell (p := ⟨w.heap.size, 1, none⟩) (Nat.le_refl _) _
    have hs8 : B.size = 8 := Decidable.not_not.1 hc2
    rw [if_pos (by unfold goodB; simp [hs8]), ← numK4, ← numK44 B hs8]
    clear hc0 hc1 hc2
    have hsz : (B.size : Int) = 8 := by omega
    have HB8 := Aside0.mk hs8
    clear hs8
    go_enter Try.func51, Try.ntmps51
    go_upto_region 1 with (fail)
    have hta := heap_alloc_new w (.cells #[.int .i64 0, .int .i64 0] 61)
    have hbb := (Below.refl w.heap.size w).alloc (Nat.le_refl _) (.cells #[.int .i64 0, .int .i64 0] 61)
    have hk1 := HK.out.below hbb
    clear HK
    have HK := Aside0.mk hk1; have F := Aside0.mk hbb; have HT := Aside0.mk hta
    have HWL := Aside0.mk (show w.heap.size + 1 ≤ (w.alloc (.cells #[.int .i64 0, .int .i64 0] 61)).heap.size by simp)
    clear hk1 hbb hta
    generalize w.alloc (.cells #[.int .i64 0, .int .i64 0] 61) = W at *
    go_upto_region 8 with (first | (go_at_call 19; (with_reducible refine (read_calls _ _ _ _ _ HK.out HO.out).mono ?_); rintro e w1 ⟨rfl, hb1⟩; have F_n := Aside0.mk (Arr.below_trans F.out hb1); have HT_n := Aside0.mk (blk_below HT.out hb1); clear F HT HK hb1; have F := F_n; have HT := HT_n; clear F_n HT_n; have t0 : w1.cell? ⟨w.heap.size, 0, none⟩ = some (.int .i64 0) := blk_cell HT.out 0; have t1 : w1.cell? ⟨w.heap.size, 1, none⟩ = some (.int .i64 0) := blk_cell HT.out 1; have f0 := blk_frozen HT.out 0; have f1 := blk_frozen HT.out 1) | (go_at_call 57; (with_reducible refine (hun _).mono ?_); rintro e w1 ⟨rfl, hb1⟩; have F_n := Aside0.mk (Arr.below_trans F.out hb1); have HT_n := Aside0.mk (blk_below HT.out hb1); clear F HT hb1 t0 t1 f0 f1; have F := F_n; have HT := HT_n; clear F_n HT_n; have hb2 := (Below.refl w1.heap.size w1).alloc (Nat.le_refl _) (.cells #[.int .u32 E, .int .u32 0, .string B] 99); have F_n := Aside0.mk (Arr.below_trans F.out hb2); have HT_n := Aside0.mk (blk_below HT.out hb2); clear F HT hb2; have F := F_n; have HT := HT_n; clear F_n HT_n; have t0 : (w1.alloc (.cells #[.int .u32 E, .int .u32 0, .string B] 99)).cell? ⟨w.heap.size, 0, none⟩ = some (.int .i64 0) := blk_cell HT.out 0; have t1 : (w1.alloc (.cells #[.int .u32 E, .int .u32 0, .string B] 99)).cell? ⟨w.heap.size, 1, none⟩ = some (.int .i64 0) := blk_cell HT.out 1; have f0 := blk_frozen HT.out 0; have f1 := blk_frozen HT.out 1; have HSL := Aside0.mk (heap_alloc_new w1 (.cells #[.int .u32 E, .int .u32 0, .string B] 99)); have s0 : (w1.alloc (.cells #[.int .u32 E, .int .u32 0, .string B] 99)).cell? ⟨w1.heap.size, 0, none⟩ = some _ := blk_cell HSL.out 0; have s1 : (w1.alloc (.cells #[.int .u32 E, .int .u32 0, .string B] 99)).cell? ⟨w1.heap.size, 1, none⟩ = some _ := blk_cell HSL.out 1; have s2 : (w1.alloc (.cells #[.int .u32 E, .int .u32 0, .string B] 99)).cell? ⟨w1.heap.size, 2, none⟩ = some _ := blk_cell HSL.out 2))
    clear t0 t1 f0 f1 s0 s1 s2 hun HWL hrb
    generalize w1.alloc (.cells #[.int .u32 E, .int .u32 0, .string B] 99) = X at *
    generalize w1.heap.size = sb at *
    have HNE := Aside0.mk (show sb ≠ w.heap.size from Dk.blk_ne HSL.out HT.out (by decide))
    go_loopw [39] (fun v wr => ∃ k : Nat, v = .int .i64 k ∧ Aside0 (k ≤ 4) ∧ Aside0 (wr.heap[w.heap.size]? = some (.cells #[.int .i64 (numK B 0 k), .int .i64 (numK B 4 k)] 61 (0, 0))) ∧ Aside0 (wr.heap[sb]? = some (.cells #[.int .u32 E, .int .u32 0, .string B] 99 (0, 0))) ∧ Aside0 (Below w.heap.size w wr)) (fun v _ => 4 - (intOf v).toNat)
    case atStart => exact ⟨0, rfl, ⟨by omega⟩, HT, HSL, F⟩
    case round =>
      clear HT HSL F
      obtain ⟨k, rfl, K, HT, HSL, F⟩ := hrel
      by_cases hlt : k < 4
      · have h1 : (k : Int) < 4 := by omega
        have hwk : wrap64 ((k : Int) + 1) = ((k + 1 : Nat) : Int) := by unfold wrap64; omega
        have h2 : (k : Int) < 8 := by omega
        have h3 : (4 : Int) + (k : Int) < 8 := by omega
        have hwk4 : wrap64 (4 + (k : Int)) = ((4 + k : Nat) : Int) := by unfold wrap64; omega
        have HLT := Aside0.mk hlt
        have h5 : (0 : Int) ≤ 4 + (k : Int) := by omega
        have t0 : wr.drew.cell? ⟨w.heap.size, 0, none⟩ = some (.int .i64 (numK B 0 k)) := blk_cell (w := wr.drew) HT.out 0
        have f0 : wr.drew.frozen? ⟨w.heap.size, 0, none⟩ = false := blk_frozen (w := wr.drew) HT.out 0
        have s2 : wr.drew.cell? ⟨sb, 2, none⟩ = some (.string B) := blk_cell (w := wr.drew) HSL.out 2
        clear hlt
        go_upto_region 10 with (fail)
        refine start_ (n := 11) (S := fun w' => w'.cell? ⟨w.heap.size, 0, none⟩ = some (.int .i64 (numK B 0 k)) ∧ w'.cell? ⟨sb, 2, none⟩ = some (.string B)) (ds := [10]) #[false, false, false, false, false, false, false, false, false, false, false] (by kernel_rfl) rfl rfl ⟨t0, s2⟩ (fun hHeld => ?_)
        refine pure_ (i := 0) (N := some 42) (v := ?_) (a' := ?_) #[true, false, false, false, false, false, false, false, false, false, false] rfl rfl (by kernel_rfl) (fun _ _ _ h => h) (Or.inl ⟨by kernel_rfl, ?_⟩) ?_ ?_
        rotate_left
        · intro w'
          go_simp
          with_reducible rfl
        rotate_left
        · simp only [Act.put, List.setIfInBounds_toArray, List.set_cons_zero, List.set_cons_succ, i64_w, i32_w]
          rfl
        refine pure_ (i := 3) (N := some 45) (v := ?_) (a' := ?_) #[true, false, false, true, false, false, false, false, false, false, false] rfl rfl (by kernel_rfl) (fun _ _ _ h => h) (Or.inl ⟨by kernel_rfl, ?_⟩) ?_ ?_
        rotate_left
        · intro w'
          go_simp
          with_reducible rfl
        rotate_left
        · simp only [Act.put, List.setIfInBounds_toArray, List.set_cons_zero, List.set_cons_succ, i64_w, i32_w]
          rfl
        refine pure_ (i := 5) (N := some 47) (v := ?_) (a' := ?_) #[true, false, false, true, false, true, false, false, false, false, false] rfl rfl (by kernel_rfl) (fun _ _ _ h => h) (Or.inl ⟨by kernel_rfl, ?_⟩) ?_ ?_
        rotate_left
        · intro w'
          go_simp
          with_reducible rfl
        rotate_left
        · simp only [Act.put, List.setIfInBounds_toArray, List.set_cons_zero, List.set_cons_succ, i64_w, i32_w]
          rfl
        refine take_ (i := 1) (N := some 43) (v := ?_) (a' := ?_) #[true, true, false, true, false, true, false, false, false, false, false] rfl rfl (by kernel_rfl) (fun _ _ _ h => h) (Or.inl ⟨by kernel_rfl, ?_⟩) hHeld ?_ ?_
        rotate_left
        · rintro w' ⟨s0_, s1_⟩
          go_simp
          with_reducible rfl
        rotate_left
        · simp only [Act.put, List.setIfInBounds_toArray, List.set_cons_zero, List.set_cons_succ, i64_w, i32_w]
          rfl
        refine pure_ (i := 2) (N := some 44) (v := ?_) (a' := ?_) #[true, true, true, true, false, true, false, false, false, false, false] rfl rfl (by kernel_rfl) (fun _ _ _ h => h) (Or.inl ⟨by kernel_rfl, ?_⟩) ?_ ?_
        rotate_left
        · intro w'
          go_simp
          with_reducible rfl
        rotate_left
        · simp only [Act.put, List.setIfInBounds_toArray, List.set_cons_zero, List.set_cons_succ, i64_w, i32_w]
          rfl
        refine take_ (i := 4) (N := some 46) (v := ?_) (a' := ?_) #[true, true, true, true, true, true, false, false, false, false, false] rfl rfl (by kernel_rfl) (fun _ _ _ h => h) (Or.inl ⟨by kernel_rfl, ?_⟩) hHeld ?_ ?_
        rotate_left
        · rintro w' ⟨s0_, s1_⟩
          go_simp
          with_reducible rfl
        rotate_left
        · simp only [Act.put, List.setIfInBounds_toArray, List.set_cons_zero, List.set_cons_succ, i64_w, i32_w]
          rfl
        refine pure_ (i := 6) (N := some 48) (v := ?_) (a' := ?_) #[true, true, true, true, true, true, true, false, false, false, false] rfl rfl (by kernel_rfl) (fun _ _ _ h => h) (Or.inl ⟨by kernel_rfl, ?_⟩) ?_ ?_
        rotate_left
        · intro w'
          go_simp
          with_reducible rfl
        rotate_left
        · simp only [Act.put, List.setIfInBounds_toArray, List.set_cons_zero, List.set_cons_succ, i64_w, i32_w]
          rfl
        refine pure_ (i := 7) (N := some 49) (v := ?_) (a' := ?_) #[true, true, true, true, true, true, true, true, false, false, false] rfl rfl (by kernel_rfl) (fun _ _ _ h => h) (Or.inl ⟨by kernel_rfl, ?_⟩) ?_ ?_
        rotate_left
        · intro w'
          go_simp
          with_reducible rfl
        rotate_left
        · simp only [Act.put, List.setIfInBounds_toArray, List.set_cons_zero, List.set_cons_succ, i64_w, i32_w]
          rfl
        refine pure_ (i := 8) (N := some 50) (v := ?_) (a' := ?_) #[true, true, true, true, true, true, true, true, true, false, false] rfl rfl (by kernel_rfl) (fun _ _ _ h => h) (Or.inl ⟨by kernel_rfl, ?_⟩) ?_ ?_
        rotate_left
        · intro w'
          go_simp
          with_reducible rfl
        rotate_left
        · simp only [Act.put, List.setIfInBounds_toArray, List.set_cons_zero, List.set_cons_succ, i64_w, i32_w]
          rfl
        refine pure_ (i := 9) (N := some 51) (v := ?_) (a' := ?_) #[true, true, true, true, true, true, true, true, true, true, false] rfl rfl (by kernel_rfl) (fun _ _ _ h => h) (Or.inl ⟨by kernel_rfl, ?_⟩) ?_ ?_
        rotate_left
        · intro w'
          go_simp
          with_reducible rfl
        rotate_left
        · simp only [Act.put, List.setIfInBounds_toArray, List.set_cons_zero, List.set_cons_succ, i64_w, i32_w]
          rfl
        refine last_ (i := 10) (N := none) #[true, true, true, true, true, true, true, true, true, true, true] rfl rfl (by kernel_rfl) (by decide) (fun K hK => ?_)
        refine skip_ (w1 := ?_) (by kernel_rfl) rfl ?_ ?_
        rotate_left
        · go_simp
          rfl
        refine hK _ _ ?_
        clear hK K
        refine done_ (by kernel_rfl) ?_
        have hv0 := or_num B 0 k k HLT.out (by omega) (by have := HB8.out; have := HLT.out; omega)
        simp only [hv0]
        have HT2 := Aside0.mk (show (wr.setCell ⟨w.heap.size, 0, none⟩ (.int .i64 (numK B 0 (k + 1)))).drew.heap[w.heap.size]? = some (.cells #[.int .i64 (numK B 0 (k + 1)), .int .i64 (numK B 4 k)] 61 (0, 0)) from set_blk HT.out 0 _)
        have HSL2 := Aside0.mk (show (wr.setCell ⟨w.heap.size, 0, none⟩ (.int .i64 (numK B 0 (k + 1)))).drew.heap[sb]? = some (.cells #[.int .u32 E, .int .u32 0, .string B] 99 (0, 0)) from (Below.heap_setCell wr ⟨w.heap.size, 0, none⟩ (.int .i64 (numK B 0 (k + 1))) sb HNE.out).trans HSL.out)
        have F2 := Aside0.mk ((F.out.setCell (p := ⟨w.heap.size, 0, none⟩) (Nat.le_refl _) (.int .i64 (numK B 0 (k + 1)))).drew)
        clear HT HSL F t0 f0 s2 hHeld hv0
        generalize (wr.setCell ⟨w.heap.size, 0, none⟩ (.int .i64 (numK B 0 (k + 1)))).drew = Y at *
        have t1 : Y.drew.cell? ⟨w.heap.size, 1, none⟩ = some (.int .i64 (numK B 4 k)) := blk_cell (w := Y.drew) HT2.out 1
        have f1 : Y.drew.frozen? ⟨w.heap.size, 1, none⟩ = false := blk_frozen (w := Y.drew) HT2.out 1
        have s2 : Y.drew.cell? ⟨sb, 2, none⟩ = some (.string B) := blk_cell (w := Y.drew) HSL2.out 2
        go_upto_region 11 with (fail)
        refine start_ (n := 12) (S := fun w' => w'.cell? ⟨w.heap.size, 1, none⟩ = some (.int .i64 (numK B 4 k)) ∧ w'.cell? ⟨sb, 2, none⟩ = some (.string B)) (ds := [11]) #[false, false, false, false, false, false, false, false, false, false, false, false] (by kernel_rfl) rfl rfl ⟨t1, s2⟩ (fun hHeld => ?_)
        refine pure_ (i := 0) (N := some 52) (v := ?_) (a' := ?_) #[true, false, false, false, false, false, false, false, false, false, false, false] rfl rfl (by kernel_rfl) (fun _ _ _ h => h) (Or.inl ⟨by kernel_rfl, ?_⟩) ?_ ?_
        rotate_left
        · intro w'
          go_simp
          with_reducible rfl
        rotate_left
        · simp only [Act.put, List.setIfInBounds_toArray, List.set_cons_zero, List.set_cons_succ, i64_w, i32_w]
          rfl
        refine pure_ (i := 3) (N := some 55) (v := ?_) (a' := ?_) #[true, false, false, true, false, false, false, false, false, false, false, false] rfl rfl (by kernel_rfl) (fun _ _ _ h => h) (Or.inl ⟨by kernel_rfl, ?_⟩) ?_ ?_
        rotate_left
        · intro w'
          go_simp
          with_reducible rfl
        rotate_left
        · simp only [Act.put, List.setIfInBounds_toArray, List.set_cons_zero, List.set_cons_succ, i64_w, i32_w]
          rfl
        refine pure_ (i := 5) (N := some 57) (v := ?_) (a' := ?_) #[true, false, false, true, false, true, false, false, false, false, false, false] rfl rfl (by kernel_rfl) (fun _ _ _ h => h) (Or.inl ⟨by kernel_rfl, ?_⟩) ?_ ?_
        rotate_left
        · intro w'
          go_simp
          with_reducible rfl
        rotate_left
        · simp only [Act.put, List.setIfInBounds_toArray, List.set_cons_zero, List.set_cons_succ, i64_w, i32_w]
          rfl
        refine pure_ (i := 6) (N := some 58) (v := ?_) (a' := ?_) #[true, false, false, true, false, true, true, false, false, false, false, false] rfl rfl (by kernel_rfl) (fun _ _ _ h => h) (Or.inl ⟨by kernel_rfl, ?_⟩) ?_ ?_
        rotate_left
        · intro w'
          go_simp
          with_reducible rfl
        rotate_left
        · simp only [Act.put, List.setIfInBounds_toArray, List.set_cons_zero, List.set_cons_succ, i64_w, i32_w]
          rfl
        refine take_ (i := 1) (N := some 53) (v := ?_) (a' := ?_) #[true, true, false, true, false, true, true, false, false, false, false, false] rfl rfl (by kernel_rfl) (fun _ _ _ h => h) (Or.inl ⟨by kernel_rfl, ?_⟩) hHeld ?_ ?_
        rotate_left
        · rintro w' ⟨s0_, s1_⟩
          go_simp
          with_reducible rfl
        rotate_left
        · simp only [Act.put, List.setIfInBounds_toArray, List.set_cons_zero, List.set_cons_succ, i64_w, i32_w]
          rfl
        refine pure_ (i := 2) (N := some 54) (v := ?_) (a' := ?_) #[true, true, true, true, false, true, true, false, false, false, false, false] rfl rfl (by kernel_rfl) (fun _ _ _ h => h) (Or.inl ⟨by kernel_rfl, ?_⟩) ?_ ?_
        rotate_left
        · intro w'
          go_simp
          with_reducible rfl
        rotate_left
        · simp only [Act.put, List.setIfInBounds_toArray, List.set_cons_zero, List.set_cons_succ, i64_w, i32_w]
          rfl
        refine take_ (i := 4) (N := some 56) (v := ?_) (a' := ?_) #[true, true, true, true, true, true, true, false, false, false, false, false] rfl rfl (by kernel_rfl) (fun _ _ _ h => h) (Or.inl ⟨by kernel_rfl, ?_⟩) hHeld ?_ ?_
        rotate_left
        · rintro w' ⟨s0_, s1_⟩
          go_simp
          with_reducible rfl
        rotate_left
        · simp only [Act.put, List.setIfInBounds_toArray, List.set_cons_zero, List.set_cons_succ, i64_w, i32_w]
          rfl
        refine pure_ (i := 7) (N := some 59) (v := ?_) (a' := ?_) #[true, true, true, true, true, true, true, true, false, false, false, false] rfl rfl (by kernel_rfl) (fun _ _ _ h => h) (Or.inl ⟨by kernel_rfl, ?_⟩) ?_ ?_
        rotate_left
        · intro w'
          go_simp
          with_reducible rfl
        rotate_left
        · simp only [Act.put, List.setIfInBounds_toArray, List.set_cons_zero, List.set_cons_succ, i64_w, i32_w]
          rfl
        refine pure_ (i := 8) (N := some 60) (v := ?_) (a' := ?_) #[true, true, true, true, true, true, true, true, true, false, false, false] rfl rfl (by kernel_rfl) (fun _ _ _ h => h) (Or.inl ⟨by kernel_rfl, ?_⟩) ?_ ?_
        rotate_left
        · intro w'
          go_simp
          with_reducible rfl
        rotate_left
        · simp only [Act.put, List.setIfInBounds_toArray, List.set_cons_zero, List.set_cons_succ, i64_w, i32_w]
          rfl
        refine pure_ (i := 9) (N := some 61) (v := ?_) (a' := ?_) #[true, true, true, true, true, true, true, true, true, true, false, false] rfl rfl (by kernel_rfl) (fun _ _ _ h => h) (Or.inl ⟨by kernel_rfl, ?_⟩) ?_ ?_
        rotate_left
        · intro w'
          go_simp
          with_reducible rfl
        rotate_left
        · simp only [Act.put, List.setIfInBounds_toArray, List.set_cons_zero, List.set_cons_succ, i64_w, i32_w]
          rfl
        refine pure_ (i := 10) (N := some 62) (v := ?_) (a' := ?_) #[true, true, true, true, true, true, true, true, true, true, true, false] rfl rfl (by kernel_rfl) (fun _ _ _ h => h) (Or.inl ⟨by kernel_rfl, ?_⟩) ?_ ?_
        rotate_left
        · intro w'
          go_simp
          with_reducible rfl
        rotate_left
        · simp only [Act.put, List.setIfInBounds_toArray, List.set_cons_zero, List.set_cons_succ, i64_w, i32_w]
          rfl
        refine last_ (i := 11) (N := none) #[true, true, true, true, true, true, true, true, true, true, true, true] rfl rfl (by kernel_rfl) (by decide) (fun K hK => ?_)
        refine skip_ (w1 := ?_) (by kernel_rfl) rfl ?_ ?_
        rotate_left
        · go_simp
          rfl
        refine hK _ _ ?_
        clear hK K
        refine done_ (by kernel_rfl) ?_
        have hv1 := or_num B 4 k (4 + (k : Int)).toNat HLT.out (by omega) (by have := HB8.out; have := HLT.out; omega)
        (try simp only [hv1])
        have HT3 := Aside0.mk (show (Y.setCell ⟨w.heap.size, 1, none⟩ (.int .i64 (numK B 4 (k + 1)))).drew.heap[w.heap.size]? = some (.cells #[.int .i64 (numK B 0 (k + 1)), .int .i64 (numK B 4 (k + 1))] 61 (0, 0)) from set_blk HT2.out 1 _)
        have HSL3 := Aside0.mk (show (Y.setCell ⟨w.heap.size, 1, none⟩ (.int .i64 (numK B 4 (k + 1)))).drew.heap[sb]? = some (.cells #[.int .u32 E, .int .u32 0, .string B] 99 (0, 0)) from (Below.heap_setCell Y ⟨w.heap.size, 1, none⟩ (.int .i64 (numK B 4 (k + 1))) sb HNE.out).trans HSL2.out)
        have F3 := Aside0.mk ((F2.out.setCell (p := ⟨w.heap.size, 1, none⟩) (Nat.le_refl _) (.int .i64 (numK B 4 (k + 1)))).drew)
        clear HT2 HSL2 F2 t1 f1 s2 hHeld hv1
        simp only [Exit.inBlock, Exit.then]
        go_wp2
        (try simp only [hwk])
        go_roundw
        case rel => exact ⟨k + 1, by first | rfl | go_num, ⟨HLT.out⟩, HT3, HSL3, F3⟩
        case measure =>
          have := HLT.out
          show 4 - (intOf (.int .i64 ((k + 1 : Nat) : Int))).toNat < 4 - (intOf (.int .i64 (k : Int))).toNat
          simp only [intOf]; omega
      · obtain rfl : k = 4 := by have := K.out; omega
        clear hlt
        go_upto_region 13 with (fail)
        have t0 : wr.drew.cell? ⟨w.heap.size, 0, none⟩ = some (.int .i64 (numK B 0 4)) := blk_cell (w := wr.drew) HT.out 0
        have t1 : wr.drew.cell? ⟨w.heap.size, 1, none⟩ = some (.int .i64 (numK B 4 4)) := blk_cell (w := wr.drew) HT.out 1
        have s0 : wr.drew.cell? ⟨sb, 0, none⟩ = some (.int .u32 E) := blk_cell (w := wr.drew) HSL.out 0
        generalize hC0 : numK B 0 4 = C0 at *
        generalize hL0 : numK B 4 4 = L0 at *
        refine start_ (n := 8) (S := fun w' => w'.cell? ⟨w.heap.size, 0, none⟩ = some (.int .i64 C0) ∧ w'.cell? ⟨w.heap.size, 1, none⟩ = some (.int .i64 L0) ∧ w'.cell? ⟨sb, 0, none⟩ = some (.int .u32 E)) (ds := []) #[false, false, false, false, false, false, false, false] (by kernel_rfl) rfl rfl ⟨t0, t1, s0⟩ (fun hHeld => ?_)
        refine pure_ (i := 1) (N := some 65) (v := ?_) (a' := ?_) #[false, true, false, false, false, false, false, false] rfl rfl (by kernel_rfl) (fun _ _ _ h => h) (Or.inl ⟨by kernel_rfl, ?_⟩) ?_ ?_
        rotate_left
        · intro w'
          go_simp
          with_reducible rfl
        rotate_left
        · simp only [Act.put, List.setIfInBounds_toArray, List.set_cons_zero, List.set_cons_succ, i64_w, i32_w]
          rfl
        refine take_ (i := 0) (N := some 64) (v := ?_) (a' := ?_) #[true, true, false, false, false, false, false, false] rfl rfl (by kernel_rfl) (fun _ _ _ h => h) (Or.inl ⟨by kernel_rfl, ?_⟩) hHeld ?_ ?_
        rotate_left
        · rintro w' ⟨s0_, s1_, s2_⟩
          go_simp
          with_reducible rfl
        rotate_left
        · simp only [Act.put, List.setIfInBounds_toArray, List.set_cons_zero, List.set_cons_succ, i64_w, i32_w]
          rfl
        refine take_ (i := 2) (N := some 66) (v := ?_) (a' := ?_) #[true, true, true, false, false, false, false, false] rfl rfl (by kernel_rfl) (fun _ _ _ h => h) (Or.inl ⟨by kernel_rfl, ?_⟩) hHeld ?_ ?_
        rotate_left
        · rintro w' ⟨s0_, s1_, s2_⟩
          go_simp
          with_reducible rfl
        rotate_left
        · simp only [Act.put, List.setIfInBounds_toArray, List.set_cons_zero, List.set_cons_succ, i64_w, i32_w]
          rfl
        refine take_ (i := 3) (N := some 67) (v := ?_) (a' := ?_) #[true, true, true, true, false, false, false, false] rfl rfl (by kernel_rfl) (fun _ _ _ h => h) (Or.inl ⟨by kernel_rfl, ?_⟩) hHeld ?_ ?_
        rotate_left
        · rintro w' ⟨s0_, s1_, s2_⟩
          go_simp
          with_reducible rfl
        rotate_left
        · simp only [Act.put, List.setIfInBounds_toArray, List.set_cons_zero, List.set_cons_succ, i64_w, i32_w]
          rfl
        refine one_ (i := 4) (N := some 68) #[true, true, true, true, true, false, false, false] rfl rfl (by kernel_rfl) (by decide) (fun K hK => ?_)
        refine goes_ Try.func52 (by kernel_rfl) rfl #[.agg #[.int .i64 C0, .int .i64 L0]] (by rfl) rfl rfl (by (try simp only [List.map_toArray, List.map_cons, List.map_nil]); first | done | rfl) ?_
        refine (may_calls _ _ _).mono ?_
        rintro e v1_ ⟨rfl, hb1⟩
        refine ⟨_, rfl, ?_⟩
        have HT2 := Aside0.mk (blk_below (w := wr.drew) HT.out hb1)
        have F2 := Aside0.mk (Arr.below_trans F.out.drew hb1)
        refine hK _ _ ⟨pw_cell_below hb1 hHeld.1, pw_cell_below hb1 hHeld.2.1, pw_cell_below hb1 hHeld.2.2⟩ (fun hHeld => ?_)
        clear hK K hb1
        refine norm_ (a' := ?_) ?_ ?_
        rotate_left
        · show Act.put _ (some 68) _ = _
          simp only [Act.put, List.setIfInBounds_toArray, List.set_cons_zero, List.set_cons_succ, i64_w, i32_w]
          rfl
        refine one_ (i := 5) (N := none) #[true, true, true, true, true, true, false, false] rfl rfl (by kernel_rfl) (by decide) (fun K hK => ?_)
        have c0 : v1_.cell? ⟨w.heap.size, 0, none⟩ = some (.int .i64 C0) := blk_cell (w := v1_) HT2.out 0
        have c1 : v1_.cell? ⟨w.heap.size, 1, none⟩ = some (.int .i64 L0) := blk_cell (w := v1_) HT2.out 1
        have z0 : v1_.frozen? ⟨w.heap.size, 0, none⟩ = false := blk_frozen (w := v1_) HT2.out 0
        have z1 : v1_.frozen? ⟨w.heap.size, 1, none⟩ = false := blk_frozen (w := v1_) HT2.out 1
        refine skip_ (w1 := ?_) (by kernel_rfl) rfl ?_ ?_
        rotate_left
        · go_simp
          rfl
        have HT3 := Aside0.mk (set_blk (set_blk HT2.out 0 (.int .i64 C0)) 1 (.int .i64 L0))
        have HS3 := (Below.heap_setCell _ ⟨w.heap.size, 1, none⟩ (.int .i64 L0) sb HNE.out).trans (Below.heap_setCell v1_ ⟨w.heap.size, 0, none⟩ (.int .i64 C0) sb HNE.out)
        refine hK _ _ ⟨blk_cell HT3.out 0, blk_cell HT3.out 1, (by simp only [World.cell?, HS3]; exact hHeld.2.2)⟩ (fun hHeld => ?_)
        clear hK K c0 c1 z0 z1 HS3
        refine pure_ (i := 6) (N := some 5) (v := ?_) (a' := ?_) #[true, true, true, true, true, true, true, false] rfl rfl (by kernel_rfl) (fun _ _ _ h => h) (Or.inl ⟨by kernel_rfl, ?_⟩) ?_ ?_
        rotate_left
        · intro w'
          go_simp
          with_reducible rfl
        rotate_left
        · simp only [Act.put, List.setIfInBounds_toArray, List.set_cons_zero, List.set_cons_succ, i64_w, i32_w]
          rfl
        refine pure_ (i := 7) (N := some 6) (v := ?_) (a' := ?_) #[true, true, true, true, true, true, true, true] rfl rfl (by kernel_rfl) (fun _ _ _ h => h) (Or.inl ⟨by kernel_rfl, ?_⟩) ?_ ?_
        rotate_left
        · intro w'
          go_simp
          with_reducible rfl
        rotate_left
        · simp only [Act.put, List.setIfInBounds_toArray, List.set_cons_zero, List.set_cons_succ, i64_w, i32_w]
          rfl
        refine done_ (by kernel_rfl) ?_
        have HC := Aside0.mk hC0; have HL := Aside0.mk hL0
        clear hC0 hL0
        simp only [Exit.inBlock, Exit.then]
        go_wp2
        refine bodyPost_ret (results_ctt rfl _ _ _ _ _ _ _ rfl HT3.out Try.underlying61 rfl rfl) rfl ⟨?_, ?_⟩
        · rw [HC.out, HL.out]
          rfl
        · exact (F2.out.setCell (p := ⟨w.heap.size, 0, none⟩) (Nat.le_refl _) _).setCell (p := ⟨w.heap.size, 1, none⟩) (Nat.le_refl _) _
  · have hrb : (readE d i == 0) = false := by simp [hre]
    have e1 : oneD d i = ⟨0, 0, 0, false⟩ := by unfold oneD; rw [if_pos hre]
    rw [e1]
    clear e1 hre
    go_enter Try.func51, Try.ntmps51
    go_upto_region 1 with (fail)
    have hta := heap_alloc_new w (.cells #[.int .i64 0, .int .i64 0] 61)
    have hbb := (Below.refl w.heap.size w).alloc (Nat.le_refl _) (.cells #[.int .i64 0, .int .i64 0] 61)
    have hk1 := HK.out.below hbb
    clear HK
    have HK := Aside0.mk hk1; have F := Aside0.mk hbb; have HT := Aside0.mk hta
    have HWL := Aside0.mk (show w.heap.size + 1 ≤ (w.alloc (.cells #[.int .i64 0, .int .i64 0] 61)).heap.size by simp)
    clear hk1 hbb hta
    generalize w.alloc (.cells #[.int .i64 0, .int .i64 0] 61) = W at *
    go_wp2_with (go_at_call 19; (with_reducible refine (read_calls _ _ _ _ _ HK.out HO.out).mono ?_); rintro e w1 ⟨rfl, hb1⟩; have F_n := Aside0.mk (Arr.below_trans F.out hb1); have HT_n := Aside0.mk (blk_below HT.out hb1); clear F HT HK hb1; have F := F_n; have HT := HT_n; clear F_n HT_n; have t0 : w1.cell? ⟨w.heap.size, 0, none⟩ = some (.int .i64 0) := blk_cell HT.out 0; have t1 : w1.cell? ⟨w.heap.size, 1, none⟩ = some (.int .i64 0) := blk_cell HT.out 1; have f0 := blk_frozen HT.out 0; have f1 := blk_frozen HT.out 1)
    refine bodyPost_ret (results_ctt rfl _ _ _ _ _ _ _ rfl (set_blk (set_blk HT.out 0 _) 1 _) Try.underlying61 rfl rfl) rfl ⟨rfl, ?_⟩
    exact (F.out.setCell (p := ⟨w.heap.size, 0, none⟩) (Nat.le_refl _) _).setCell (p := ⟨w.heap.size, 1, none⟩) (Nat.le_refl _) _
end Go.Proofs.Ytbdfdfahpdilpaa.X12
