import Derived.Test.YtlgcmcieipdcgaaProg
import Derived.Test.YtlgcmcieipdcgaaArr
import Derived.Test.YtlgcmcieipdcgaaWWords
import Derived.Test.YtlgcmcieipdcgaaWMore
import Derived.Deep.QuietTactic
import Derived.Deep.RegionLaw
import Derived.BigQuiet
import Derived.RegionTactic
import Derived.Outline
import Derived.Lib.Hide
import Derived.Deep.CutBlock
import Derived.Deep.DeepCutAuto
namespace Go.Proofs.Ytlgcmcieipdcgaa.Page
open Go Go.RowKit Go.Proofs.Ytlgcmcieipdcgaa.Arr Go.Proofs.YtlgcmcieipdcgaaW.PrintWords Go.Proofs.YtlgcmcieipdcgaaW.PrintMore
attribute [local go_sem] max2_int min2_int max_two min_two
set_option maxRecDepth 100000 in
theorem z220 (w : World) : (zeroValue 77).run Try.prog w = .ok (.agg (row (noughts 220))) w := by rw [row_noughts]; kernel_rfl
theorem sz220 : (row (noughts 220)).size = 220 := by rw [row_size, noughts_size]

theorem fld_page_0 (a b : Value) (w : World) : (Instr.field 23 (.agg #[a, b]) 0).run Try.prog w = .ok a w := by kernel_rfl
theorem fld_page_1 (a b : Value) (w : World) : (Instr.field 23 (.agg #[a, b]) 1).run Try.prog w = .ok b w := by kernel_rfl

def Post (v : Value) (w : World) (e : Ending) (w' : World) : Prop := e = .returned v ∧ Below w.heap.size w w'

theorem empty_calls (w : World) : Calls Try.prog 22 #[] w (Post (.agg #[.int .i64 0, .string (noughts 220)]) w) := by
  have h77 := z220
  have hb : ((w.alloc (Obj.cells #[Value.int IntKind.i64 0, Value.string { data := #[] }] 23)).alloc (Obj.cells (row (noughts 220)) 77)).heap[w.heap.size + 1]? = some (.cells (row (noughts 220)) 77 (0, 0)) := by
    rw [← World.size_alloc]; exact heap_alloc_new _ _
  have hc := conv_whole hb 56 5 9 Try.underlying56 Try.underlying5 Try.underlying9 220 220 (noughts_size 220)
  clear hb
  go_enter Try.func22, Try.ntmps22
  go_wp2
  exact bodyPost_ret (v := .agg #[.int .i64 0, .string (noughts 220)]) (by simp [results, Try.results22, go_sem]) rfl ⟨rfl, ((Below.refl _ _).alloc (Nat.le_refl _) _).alloc (by simp) _⟩

def Drawn (w w' : World) : Prop := ∃ n, w' = w.drewN n
/-- The tests that page.Put passes. -/
def Ok (p0 : Int) (p1 : ByteArray) (off : Int) (s : ByteArray) (at_ : Int) : Prop := (0 ≤ p0 ∧ p0 ≤ 2147483647 ∧ p1.size = 220) ∧ (0 ≤ at_ ∧ at_ ≤ 2147483647) ∧ 0 ≤ off ∧ off + s.size ≤ 220

theorem right_calls (p0 : Int) (p1 : ByteArray) (b : Bool) (hbb : b = decide (0 ≤ p0 ∧ p0 ≤ 2147483647 ∧ p1.size = 220)) (w : World) : Calls Try.prog 20 #[.agg #[.int .i64 p0, .string p1]] w (Post (.bool b) w) := by
  by_cases h0 : 0 ≤ p0
  · by_cases h1 : p0 ≤ 2147483647
    · have t0 : decide (0 ≤ p0) = true := by simpa using h0
      have t1 : decide (p0 ≤ 2147483647) = true := by simpa using h1
      have HB := Lib.hid hbb; clear hbb
      go_enter Try.func20, Try.ntmps20
      go_wp2
      go_ret
      have e : b = ((p1.size : Int) == 220) := by
        rw [HB.out, Bool.eq_iff_iff]; simp only [decide_eq_true_eq, beq_iff_eq]; omega
      subst e
      exact ⟨rfl, (Below.refl _ _).alloc (Nat.le_refl _) _⟩
    · have t0 : decide (0 ≤ p0) = true := by simpa using h0
      have t1 : decide (p0 ≤ 2147483647) = false := by simpa using h1
      obtain rfl : b = false := by rw [hbb]; simp; omega
      clear hbb
      go_enter Try.func20, Try.ntmps20
      go_wp2
      go_ret
      exact ⟨rfl, (Below.refl _ _).alloc (Nat.le_refl _) _⟩
  · have t0 : decide (0 ≤ p0) = false := by simpa using h0
    obtain rfl : b = false := by rw [hbb]; simp; omega
    clear hbb
    go_enter Try.func20, Try.ntmps20
    go_wp2
    go_ret
    exact ⟨rfl, (Below.refl _ _).alloc (Nat.le_refl _) _⟩

theorem put_form (p0 : Int) (p1 : ByteArray) (off : Int) (s : ByteArray) (at_ : Int) (w : World) (h : ¬ (0 ≤ p0 ∧ p0 ≤ 2147483647 ∧ p1.size = 220)) :
    Calls Try.prog 16 #[.agg #[.int .i64 p0, .string p1], .int .i64 off, .string s, .int .i64 at_] w (Post (.tuple #[.agg #[.int .i64 0, .string ⟨#[]⟩], .int .i64 3]) w) := by
  have hr := right_calls p0 p1 false (by simp [h])
  clear h
  go_enter Try.func16, Try.ntmps16
  go_upto_region 1 with (fail)
  obtain ⟨b0, b1, hz, hB⟩ := two_blocks w (Obj.cells #[Value.int IntKind.i64 p0, Value.string p1] 23) (Obj.cells #[Value.int IntKind.i64 0, Value.string { data := #[] }] 23)
  generalize (w.alloc (Obj.cells #[Value.int IntKind.i64 p0, Value.string p1] 23)).alloc (Obj.cells #[Value.int IntKind.i64 0, Value.string { data := #[] }] 23) = W at *
  have c0 := blk_cell b0 0; have c1 := blk_cell b0 1
  have B0 := Lib.hid b0; have B1 := Lib.hid b1; have HZ := Lib.hid hz; clear b0 b1 hz
  go_wp2_with (go_at_call 20; refine (hr _).mono ?_; rintro e w' ⟨rfl, hb⟩; have b1 := blk_below B1.out hb; have d0 := blk_cell b1 0; have d1 := blk_cell b1 1; have f0 := blk_frozen b1 0; have f1 := blk_frozen b1 1; have B2 := Lib.hid b1; clear b1)
  have b2 := blk_set (blk_set B2.out 0 (.int .i64 0)) 1 (.string ⟨#[]⟩)
  refine bodyPost_ret (results_ct rfl _ _ _ _ _ _ _ rfl b2 Try.underlying23 rfl rfl) rfl ⟨rfl, ?_⟩
  have := HZ.out
  exact ((below_trans hB hb).setCell (by simp) _).setCell (by simp) _

theorem put_arg (p0 : Int) (p1 : ByteArray) (off : Int) (s : ByteArray) (at_ : Int) (w : World) (hp : 0 ≤ p0 ∧ p0 ≤ 2147483647 ∧ p1.size = 220) (h : at_ < 0 ∨ 2147483647 < at_) :
    Calls Try.prog 16 #[.agg #[.int .i64 p0, .string p1], .int .i64 off, .string s, .int .i64 at_] w (Post (.tuple #[.agg #[.int .i64 0, .string ⟨#[]⟩], .int .i64 1]) w) := by
  have hr := right_calls p0 p1 true (by simp [hp])
  clear hp
  rcases h with h | h
  all_goals
    first
    | (have t1 : decide (at_ < 0) = true := by simpa using h)
    | (have t1 : decide (at_ < 0) = false := by simp; omega
       have t2 : decide (2147483647 < at_) = true := by simpa using h)
    go_enter Try.func16, Try.ntmps16
    go_upto_region 1 with (fail)
    obtain ⟨b0, b1, hz, hB⟩ := two_blocks w (Obj.cells #[Value.int IntKind.i64 p0, Value.string p1] 23) (Obj.cells #[Value.int IntKind.i64 0, Value.string { data := #[] }] 23)
    generalize (w.alloc (Obj.cells #[Value.int IntKind.i64 p0, Value.string p1] 23)).alloc (Obj.cells #[Value.int IntKind.i64 0, Value.string { data := #[] }] 23) = W at *
    have c0 := blk_cell b0 0; have c1 := blk_cell b0 1
    have B0 := Lib.hid b0; have B1 := Lib.hid b1; have HZ := Lib.hid hz; clear b0 b1 hz
    go_wp2_with (go_at_call 20; refine (hr _).mono ?_; rintro e w' ⟨rfl, hb⟩; have b1 := blk_below B1.out hb; have d0 := blk_cell b1 0; have d1 := blk_cell b1 1; have f0 := blk_frozen b1 0; have f1 := blk_frozen b1 1; have B2 := Lib.hid b1; clear b1)
    have b2 := blk_set (blk_set B2.out 0 (.int .i64 0)) 1 (.string ⟨#[]⟩)
    refine bodyPost_ret (results_ct rfl _ _ _ _ _ _ _ rfl b2 Try.underlying23 rfl rfl) rfl ⟨rfl, ?_⟩
    have := HZ.out
    exact ((below_trans hB hb).setCell (by simp) _).setCell (by simp) _

theorem put_range (p0 : Int) (p1 : ByteArray) (off : Int) (s : ByteArray) (at_ : Int) (w : World) (hs : s.size ≤ 140737488351232) (hp : 0 ≤ p0 ∧ p0 ≤ 2147483647 ∧ p1.size = 220) (ha : 0 ≤ at_ ∧ at_ ≤ 2147483647) (h : off < 0 ∨ (0 ≤ off ∧ s.size ≤ 220 ∧ 220 < off + s.size) ∨ (0 < off ∧ 220 < s.size) ∨ (off = 0 ∧ 220 < s.size)) :
    Calls Try.prog 16 #[.agg #[.int .i64 p0, .string p1], .int .i64 off, .string s, .int .i64 at_] w (Post (.tuple #[.agg #[.int .i64 0, .string ⟨#[]⟩], .int .i64 2]) w) := by
  have hr := right_calls p0 p1 true (by simp [hp])
  clear hp
  have t1 : decide (at_ < 0) = false := by simp; omega
  have t2 : decide (2147483647 < at_) = false := by simp; omega
  clear ha
  rcases h with h | h | h | h
  · have t3 : decide (off < 0) = true := by simpa using h
    go_enter Try.func16, Try.ntmps16
    go_upto_region 1 with (fail)
    obtain ⟨b0, b1, hz, hB⟩ := two_blocks w (Obj.cells #[Value.int IntKind.i64 p0, Value.string p1] 23) (Obj.cells #[Value.int IntKind.i64 0, Value.string { data := #[] }] 23)
    generalize (w.alloc (Obj.cells #[Value.int IntKind.i64 p0, Value.string p1] 23)).alloc (Obj.cells #[Value.int IntKind.i64 0, Value.string { data := #[] }] 23) = W at *
    have c0 := blk_cell b0 0; have c1 := blk_cell b0 1
    have B0 := Lib.hid b0; have B1 := Lib.hid b1; have HZ := Lib.hid hz; clear b0 b1 hz
    go_wp2_with (go_at_call 20; refine (hr _).mono ?_; rintro e w' ⟨rfl, hb⟩; have b1 := blk_below B1.out hb; have d0 := blk_cell b1 0; have d1 := blk_cell b1 1; have f0 := blk_frozen b1 0; have f1 := blk_frozen b1 1; have B2 := Lib.hid b1; clear b1)
    have b2 := blk_set (blk_set B2.out 0 (.int .i64 0)) 1 (.string ⟨#[]⟩)
    refine bodyPost_ret (results_ct rfl _ _ _ _ _ _ _ rfl b2 Try.underlying23 rfl rfl) rfl ⟨rfl, ?_⟩
    have := HZ.out
    exact ((below_trans hB hb).setCell (by simp) _).setCell (by simp) _
  · obtain ⟨h1, h2, h3⟩ := h
    have t3 : decide (off < 0) = false := by simp; omega
    have t4 : ¬ (220 : Int) < (s.size : Int) := by omega
    have t5 : decide (220 - (s.size : Int) < off) = true := by simp; omega
    go_enter Try.func16, Try.ntmps16
    go_upto_region 1 with (fail)
    obtain ⟨b0, b1, hz, hB⟩ := two_blocks w (Obj.cells #[Value.int IntKind.i64 p0, Value.string p1] 23) (Obj.cells #[Value.int IntKind.i64 0, Value.string { data := #[] }] 23)
    generalize (w.alloc (Obj.cells #[Value.int IntKind.i64 p0, Value.string p1] 23)).alloc (Obj.cells #[Value.int IntKind.i64 0, Value.string { data := #[] }] 23) = W at *
    have c0 := blk_cell b0 0; have c1 := blk_cell b0 1
    have B0 := Lib.hid b0; have B1 := Lib.hid b1; have HZ := Lib.hid hz; clear b0 b1 hz
    go_wp2_with (go_at_call 20; refine (hr _).mono ?_; rintro e w' ⟨rfl, hb⟩; have b1 := blk_below B1.out hb; have d0 := blk_cell b1 0; have d1 := blk_cell b1 1; have f0 := blk_frozen b1 0; have f1 := blk_frozen b1 1; have B2 := Lib.hid b1; clear b1)
    have b2 := blk_set (blk_set B2.out 0 (.int .i64 0)) 1 (.string ⟨#[]⟩)
    refine bodyPost_ret (results_ct rfl _ _ _ _ _ _ _ rfl b2 Try.underlying23 rfl rfl) rfl ⟨rfl, ?_⟩
    have := HZ.out
    exact ((below_trans hB hb).setCell (by simp) _).setCell (by simp) _
  · obtain ⟨h1, h3⟩ := h
    have t3 : decide (off < 0) = false := by simp; omega
    have t4 : (220 : Int) < (s.size : Int) := by omega
    have t5 : decide (0 < off) = true := by simp; omega
    go_enter Try.func16, Try.ntmps16
    go_upto_region 1 with (fail)
    obtain ⟨b0, b1, hz, hB⟩ := two_blocks w (Obj.cells #[Value.int IntKind.i64 p0, Value.string p1] 23) (Obj.cells #[Value.int IntKind.i64 0, Value.string { data := #[] }] 23)
    generalize (w.alloc (Obj.cells #[Value.int IntKind.i64 p0, Value.string p1] 23)).alloc (Obj.cells #[Value.int IntKind.i64 0, Value.string { data := #[] }] 23) = W at *
    have c0 := blk_cell b0 0; have c1 := blk_cell b0 1
    have B0 := Lib.hid b0; have B1 := Lib.hid b1; have HZ := Lib.hid hz; clear b0 b1 hz
    go_wp2_with (go_at_call 20; refine (hr _).mono ?_; rintro e w' ⟨rfl, hb⟩; have b1 := blk_below B1.out hb; have d0 := blk_cell b1 0; have d1 := blk_cell b1 1; have f0 := blk_frozen b1 0; have f1 := blk_frozen b1 1; have B2 := Lib.hid b1; clear b1)
    have b2 := blk_set (blk_set B2.out 0 (.int .i64 0)) 1 (.string ⟨#[]⟩)
    refine bodyPost_ret (results_ct rfl _ _ _ _ _ _ _ rfl b2 Try.underlying23 rfl rfl) rfl ⟨rfl, ?_⟩
    have := HZ.out
    exact ((below_trans hB hb).setCell (by simp) _).setCell (by simp) _
  · obtain ⟨rfl, h3⟩ := h
    have t4 : (220 : Int) < (s.size : Int) := by omega
    have t6 : decide ((220 : Int) < (s.size : Int)) = true := by simp; omega
    go_enter Try.func16, Try.ntmps16
    go_upto_region 1 with (fail)
    obtain ⟨b0, b1, hz, hB⟩ := two_blocks w (Obj.cells #[Value.int IntKind.i64 p0, Value.string p1] 23) (Obj.cells #[Value.int IntKind.i64 0, Value.string { data := #[] }] 23)
    generalize (w.alloc (Obj.cells #[Value.int IntKind.i64 p0, Value.string p1] 23)).alloc (Obj.cells #[Value.int IntKind.i64 0, Value.string { data := #[] }] 23) = W at *
    have c0 := blk_cell b0 0; have c1 := blk_cell b0 1
    have B0 := Lib.hid b0; have B1 := Lib.hid b1; have HZ := Lib.hid hz; clear b0 b1 hz
    go_wp2_with (go_at_call 20; refine (hr _).mono ?_; rintro e w' ⟨rfl, hb⟩; have b1 := blk_below B1.out hb; have d0 := blk_cell b1 0; have d1 := blk_cell b1 1; have f0 := blk_frozen b1 0; have f1 := blk_frozen b1 1; have B2 := Lib.hid b1; clear b1)
    have b2 := blk_set (blk_set B2.out 0 (.int .i64 0)) 1 (.string ⟨#[]⟩)
    refine bodyPost_ret (results_ct rfl _ _ _ _ _ _ _ rfl b2 Try.underlying23 rfl rfl) rfl ⟨rfl, ?_⟩
    have := HZ.out
    exact ((below_trans hB hb).setCell (by simp) _).setCell (by simp) _
theorem splice_whole (t s : ByteArray) (h : s.size = t.size) : splice t 0 s = s := by
  apply ByteArray.ext
  apply Array.toList_inj.1
  have e1 : t.data.toList.length = t.size := by simp
  simp only [splice, List.take_zero, List.nil_append, Nat.zero_add]
  rw [List.drop_of_length_le (by omega), List.append_nil]

theorem splice_empty (t s : ByteArray) (h : s.size = 0) : splice t 0 s = t := by
  apply ByteArray.ext
  apply Array.toList_inj.1
  have e2 : s.data.toList = [] := List.length_eq_zero_iff.1 (by simpa using h)
  simp [splice, e2, h]

theorem put_ok (p0 : Int) (p1 : ByteArray) (off : Nat) (s : ByteArray) (at_ : Int) (w : World) (hp : 0 ≤ p0 ∧ p0 ≤ 2147483647 ∧ p1.size = 220) (ha : 0 ≤ at_ ∧ at_ ≤ 2147483647) (h : off + s.size ≤ 220) (hlt : off < 220) :
    Calls Try.prog 16 #[.agg #[.int .i64 p0, .string p1], .int .i64 off, .string s, .int .i64 at_] w (Post (.tuple #[.agg #[.int .i64 at_, .string (splice p1 off s)], .int .i64 0]) w) := by
  have hr := right_calls p0 p1 true (by simp [hp])
  have h1 : p1.size = 220 := hp.2.2
  clear hp
  have hne : ¬ (220 : Nat) = off := by omega
  have hoff : (off : Int) ≤ 220 := by omega
  have t1 : decide (at_ < 0) = false := by simp; omega
  have t2 : decide (2147483647 < at_) = false := by simp; omega
  clear ha
  have t3 : decide ((off : Int) < 0) = false := by simp
  have t4 : ¬ (220 : Int) < (s.size : Int) := by omega
  have t5 : decide (220 - (s.size : Int) < (off : Int)) = false := by simp; omega
  have t6 : decide ((220 : Int) < (s.size : Int)) = false := by simp; omega
  have H1 := Lib.hid h1; clear h1
  go_enter Try.func16, Try.ntmps16
  go_upto_region 1 with (fail)
  obtain ⟨b0, b1, hz, hB⟩ := two_blocks w (Obj.cells #[Value.int IntKind.i64 p0, Value.string p1] 23) (Obj.cells #[Value.int IntKind.i64 0, Value.string { data := #[] }] 23)
  generalize (w.alloc (Obj.cells #[Value.int IntKind.i64 p0, Value.string p1] 23)).alloc (Obj.cells #[Value.int IntKind.i64 0, Value.string { data := #[] }] 23) = W at *
  have c0 := blk_cell b0 0; have c1 := blk_cell b0 1
  have B0 := Lib.hid b0; have B1 := Lib.hid b1; have HZ := Lib.hid hz; clear b0 b1 hz
  go_upto_region 7 with (go_at_call 20; refine (hr _).mono ?_; rintro e w' ⟨rfl, hb⟩; have b1 := blk_below B1.out hb; have d0 := blk_cell b1 0; have d1 := blk_cell b1 1; have f0 := blk_frozen b1 0; have f1 := blk_frozen b1 1; have B2 := Lib.hid b1; clear b1)
  have h77 := z220
  go_upto_region 8 with (fail)
  have e0 := (Below.heap_alloc w' (Obj.cells (row (noughts 220)) 77) _ (blk_lt (blk_below B0.out hb))).trans (blk_below B0.out hb)
  have e1 := (Below.heap_alloc w' (Obj.cells (row (noughts 220)) 77) _ (blk_lt B2.out)).trans B2.out
  have e2 := heap_alloc_new w' (Obj.cells (row (noughts 220)) 77)
  have hB3 := (below_trans hB hb).alloc (by have := hb.size; have := hB.size; omega) (Obj.cells (row (noughts 220)) 77)
  have hz2 : w.heap.size + 1 < w'.heap.size := blk_lt B2.out
  clear B0 B1 B2 c0 c1 d0 d1 f0 f1 hB hb h77
  generalize w'.alloc (Obj.cells (row (noughts 220)) 77) = w2 at *
  generalize w'.heap.size = g at *
  clear HZ
  have c0 := blk_cell e0 1
  have cp := copy_row (w := w2.drew) e2 56 9 3 5 Try.underlying56 rfl 0 220 220 p1 (by have := H1.out; omega) (by have := H1.out; rw [noughts_size]; omega)
  rw [splice_whole _ _ (by rw [noughts_size]; exact H1.out)] at cp
  go_region
  have f0 := set_row (w := w2.drew) e2 (row p1)
  have f1 : (w2.drew.setRow g (row p1)).heap[w.heap.size + 1]? = some (Obj.cells #[.int .i64 0, .string ⟨#[]⟩] 23) := (setRow_other _ _ _ _ (by omega)).trans e1
  have hB4 := below_setRow (hB3.drew) (g := g) (by omega) (row p1)
  clear cp e0 e1 e2 c0 hB3
  generalize w2.drew.setRow g (row p1) = w3 at *
  have cp := copy_row (w := w3) f0 56 9 3 5 Try.underlying56 rfl off (220 - off) (220 - off) s (by omega) (by have := H1.out; omega)
  have g0 := set_row f0 (row (splice p1 off s))
  have g1 : (w3.setRow g (row (splice p1 off s))).heap[w.heap.size + 1]? = some (Obj.cells #[.int .i64 0, .string ⟨#[]⟩] 23) := (setRow_other _ _ _ _ (by omega)).trans f1
  have hB5 := below_setRow hB4 (g := g) (by omega) (row (splice p1 off s))
  have CV := Lib.hid (conv_whole g0 56 5 9 Try.underlying56 Try.underlying5 Try.underlying9 220 220 (by rw [splice_size _ _ _ (by have := H1.out; omega)]; exact H1.out))
  have G1 := Lib.hid g1
  clear f0 f1 g0 g1 hB4 h
  go_upto_region 10 with (fail)
  generalize w3.setRow g (row (splice p1 off s)) = w4 at *
  have cv := CV.out
  have d0 := blk_cell G1.out 0
  have d1 := blk_cell G1.out 1
  have e0 := blk_frozen G1.out 0
  have e1 := blk_frozen G1.out 1
  clear CV
  go_wp2
  have b2 := blk_set (blk_set G1.out 0 (.int .i64 at_)) 1 (.string (splice p1 off s))
  refine bodyPost_ret (results_ct rfl _ _ _ _ _ _ _ rfl b2 Try.underlying23 rfl rfl) rfl ⟨rfl, ?_⟩
  exact (hB5.setCell (by simp) _).setCell (by simp) _

theorem put_end (p0 : Int) (p1 : ByteArray) (s : ByteArray) (at_ : Int) (w : World) (hp : 0 ≤ p0 ∧ p0 ≤ 2147483647 ∧ p1.size = 220) (ha : 0 ≤ at_ ∧ at_ ≤ 2147483647) (h : s.size = 0) :
    Calls Try.prog 16 #[.agg #[.int .i64 p0, .string p1], .int .i64 220, .string s, .int .i64 at_] w (Post (.tuple #[.agg #[.int .i64 at_, .string (p1)], .int .i64 0]) w) := by
  have hr := right_calls p0 p1 true (by simp [hp])
  have h1 : p1.size = 220 := hp.2.2
  clear hp
  have t1 : decide (at_ < 0) = false := by simp; omega
  have t2 : decide (2147483647 < at_) = false := by simp; omega
  clear ha
  have t3 : decide ((220 : Int) < 0) = false := by simp
  have t4 : ¬ (220 : Int) < (s.size : Int) := by omega
  have t5 : decide (220 - (s.size : Int) < (220 : Int)) = false := by simp; omega
  have t6 : decide ((220 : Int) < (s.size : Int)) = false := by simp; omega
  have H1 := Lib.hid h1; clear h1
  go_enter Try.func16, Try.ntmps16
  go_upto_region 1 with (fail)
  obtain ⟨b0, b1, hz, hB⟩ := two_blocks w (Obj.cells #[Value.int IntKind.i64 p0, Value.string p1] 23) (Obj.cells #[Value.int IntKind.i64 0, Value.string { data := #[] }] 23)
  generalize (w.alloc (Obj.cells #[Value.int IntKind.i64 p0, Value.string p1] 23)).alloc (Obj.cells #[Value.int IntKind.i64 0, Value.string { data := #[] }] 23) = W at *
  have c0 := blk_cell b0 0; have c1 := blk_cell b0 1
  have B0 := Lib.hid b0; have B1 := Lib.hid b1; have HZ := Lib.hid hz; clear b0 b1 hz
  go_upto_region 7 with (go_at_call 20; refine (hr _).mono ?_; rintro e w' ⟨rfl, hb⟩; have b1 := blk_below B1.out hb; have d0 := blk_cell b1 0; have d1 := blk_cell b1 1; have f0 := blk_frozen b1 0; have f1 := blk_frozen b1 1; have B2 := Lib.hid b1; clear b1)
  have h77 := z220
  go_upto_region 8 with (fail)
  have e0 := (Below.heap_alloc w' (Obj.cells (row (noughts 220)) 77) _ (blk_lt (blk_below B0.out hb))).trans (blk_below B0.out hb)
  have e1 := (Below.heap_alloc w' (Obj.cells (row (noughts 220)) 77) _ (blk_lt B2.out)).trans B2.out
  have e2 := heap_alloc_new w' (Obj.cells (row (noughts 220)) 77)
  have hB3 := (below_trans hB hb).alloc (by have := hb.size; have := hB.size; omega) (Obj.cells (row (noughts 220)) 77)
  have hz2 : w.heap.size + 1 < w'.heap.size := blk_lt B2.out
  clear B0 B1 B2 c0 c1 d0 d1 f0 f1 hB hb h77
  generalize w'.alloc (Obj.cells (row (noughts 220)) 77) = w2 at *
  generalize w'.heap.size = g at *
  clear HZ
  have c0 := blk_cell e0 1
  have cp := copy_row (w := w2.drew) e2 56 9 3 5 Try.underlying56 rfl 0 220 220 p1 (by have := H1.out; omega) (by have := H1.out; rw [noughts_size]; omega)
  rw [splice_whole _ _ (by rw [noughts_size]; exact H1.out)] at cp
  go_region
  have f0 := set_row (w := w2.drew) e2 (row p1)
  have f1 : (w2.drew.setRow g (row p1)).heap[w.heap.size + 1]? = some (Obj.cells #[.int .i64 0, .string ⟨#[]⟩] 23) := (setRow_other _ _ _ _ (by omega)).trans e1
  have hB4 := below_setRow (hB3.drew) (g := g) (by omega) (row p1)
  clear cp e0 e1 e2 c0 hB3
  generalize w2.drew.setRow g (row p1) = w3 at *
  have cp := copy_row (w := w3) f0 56 9 3 5 Try.underlying56 rfl 0 0 0 s (by omega) (by have := H1.out; omega)
  rw [splice_empty _ _ h] at cp
  have g0 := set_row f0 (row (p1))
  have g1 : (w3.setRow g (row (p1))).heap[w.heap.size + 1]? = some (Obj.cells #[.int .i64 0, .string ⟨#[]⟩] 23) := (setRow_other _ _ _ _ (by omega)).trans f1
  have hB5 := below_setRow hB4 (g := g) (by omega) (row (p1))
  have CV := Lib.hid (conv_whole g0 56 5 9 Try.underlying56 Try.underlying5 Try.underlying9 220 220 (H1.out))
  have G1 := Lib.hid g1
  clear f0 f1 g0 g1 hB4 h
  go_upto_region 10 with (fail)
  generalize w3.setRow g (row (p1)) = w4 at *
  have cv := CV.out
  have d0 := blk_cell G1.out 0
  have d1 := blk_cell G1.out 1
  have e0 := blk_frozen G1.out 0
  have e1 := blk_frozen G1.out 1
  clear CV
  go_wp2
  have b2 := blk_set (blk_set G1.out 0 (.int .i64 at_)) 1 (.string (p1))
  refine bodyPost_ret (results_ct rfl _ _ _ _ _ _ _ rfl b2 Try.underlying23 rfl rfl) rfl ⟨rfl, ?_⟩
  exact (hB5.setCell (by simp) _).setCell (by simp) _

/-- What page.Put gives: the page's place, its bytes, the error. -/
def putF (p0 : Int) (p1 : ByteArray) (off : Int) (s : ByteArray) (at_ : Int) : Int × ByteArray × Int :=
  if 0 ≤ p0 ∧ p0 ≤ 2147483647 ∧ p1.size = 220 then
    if 0 ≤ at_ ∧ at_ ≤ 2147483647 then
      if 0 ≤ off ∧ off + s.size ≤ 220 then (at_, splice p1 off.toNat s, 0) else (0, ⟨#[]⟩, 2)
    else (0, ⟨#[]⟩, 1)
  else (0, ⟨#[]⟩, 3)

theorem put_calls (p0 : Int) (p1 : ByteArray) (off : Int) (s : ByteArray) (at_ : Int) (w : World) (hs : s.size ≤ 140737488351232) :
    Calls Try.prog 16 #[.agg #[.int .i64 p0, .string p1], .int .i64 off, .string s, .int .i64 at_] w (Post (.tuple #[.agg #[.int .i64 (putF p0 p1 off s at_).1, .string (putF p0 p1 off s at_).2.1], .int .i64 (putF p0 p1 off s at_).2.2]) w) := by
  unfold putF
  by_cases hp : 0 ≤ p0 ∧ p0 ≤ 2147483647 ∧ p1.size = 220
  · rw [if_pos hp]
    by_cases ha : 0 ≤ at_ ∧ at_ ≤ 2147483647
    · rw [if_pos ha]
      by_cases ho : 0 ≤ off ∧ off + s.size ≤ 220
      · rw [if_pos ho]
        obtain ⟨n, rfl⟩ := Int.eq_ofNat_of_zero_le ho.1
        have h := ho.2
        by_cases hn : n < 220
        · exact put_ok p0 p1 n s at_ w hp ha (by omega) hn
        · obtain rfl : n = 220 := by omega
          have h0 : s.size = 0 := by omega
          have e : splice p1 (220 : Int).toNat s = p1 := by
            have e2 : s.data.toList = [] := List.length_eq_zero_iff.1 (by simpa using h0)
            apply ByteArray.ext
            apply Array.toList_inj.1
            simp only [splice, e2, h0, List.append_nil, Nat.add_zero, List.take_append_drop]
          show Calls _ _ _ _ (Post (.tuple #[.agg #[.int .i64 at_, .string (splice p1 (220 : Int).toNat s)], .int .i64 0]) w)
          rw [e]
          exact put_end p0 p1 s at_ w hp ha h0
      · rw [if_neg ho]
        exact put_range p0 p1 off s at_ w hs hp ha (by omega)
    · rw [if_neg ha]
      exact put_arg p0 p1 off s at_ w hp (by omega)
  · rw [if_neg hp]
    exact put_form p0 p1 off s at_ w hp
end Go.Proofs.Ytlgcmcieipdcgaa.Page
