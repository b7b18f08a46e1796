import Derived.Test.YtlgcmcieipdcgaaPage
import Derived.BigRegion
namespace Go.Proofs.Ytlgcmcieipdcgaa.RefPage
open Go Go.RowKit Go.Proofs.Ytlgcmcieipdcgaa.Arr Go.Proofs.Ytlgcmcieipdcgaa.Page Go.Proofs.YtlgcmcieipdcgaaW.PrintWords Go.Proofs.YtlgcmcieipdcgaaW.PrintMore
attribute [local go_sem] max2_int min2_int max_two min_two
set_option linter.unusedVariables false

theorem right_calls (p0 : Int) (p1 : ByteArray) (b : Bool) (hbb : b = decide (0 ≤ p0 ∧ p0 ≤ 2147483647 ∧ p1.size = 220)) (w : World) : Calls Try.prog 21 #[.agg #[.int .i64 p0, .string p1]] w (Post (.bool b) w) := by
  by_cases h0 : 0 ≤ p0
  · by_cases h1 : p0 ≤ 2147483647
    · have t0 : decide (0 ≤ p0) = true := by simpa using h0
      have t1 : decide (p0 ≤ 2147483647) = true := by simpa using h1
      have HB := Lib.hid hbb; clear hbb
      go_enter Try.func21, Try.ntmps21
      go_wp2
      go_ret
      have e : b = ((p1.size : Int) == 220) := by
        rw [HB.out, Bool.eq_iff_iff]; simp only [decide_eq_true_eq, beq_iff_eq]; omega
      subst e
      exact ⟨rfl, (Below.refl _ _).alloc (Nat.le_refl _) _⟩
    · have t0 : decide (0 ≤ p0) = true := by simpa using h0
      have t1 : decide (p0 ≤ 2147483647) = false := by simpa using h1
      obtain rfl : b = false := by rw [hbb]; simp; omega
      clear hbb
      go_enter Try.func21, Try.ntmps21
      go_wp2
      go_ret
      exact ⟨rfl, (Below.refl _ _).alloc (Nat.le_refl _) _⟩
  · have t0 : decide (0 ≤ p0) = false := by simpa using h0
    obtain rfl : b = false := by rw [hbb]; simp; omega
    clear hbb
    go_enter Try.func21, Try.ntmps21
    go_wp2
    go_ret
    exact ⟨rfl, (Below.refl _ _).alloc (Nat.le_refl _) _⟩

theorem splice_cut (t : ByteArray) (o : Nat) (s : ByteArray) (h : o + s.size ≤ t.size) : t.extract 0 o ++ s ++ t.extract (o + s.size) t.size = splice t o s := by
  have e1 : t.data.toList.length = t.size := by simp
  have e2 : s.data.toList.length = s.size := by simp
  apply ByteArray.ext
  apply Array.toList_inj.1
  have e : (t.extract 0 o ++ s ++ t.extract (o + s.size) t.size).data.toList = t.data.toList.take o ++ s.data.toList ++ (t.data.toList.drop (o + s.size)).take (t.size - (o + s.size)) := by
    simp
  have e3 : (t.data.toList.drop (o + s.size)).take (t.size - (o + s.size)) = t.data.toList.drop (o + s.size) := List.take_of_length_le (by rw [List.length_drop, e1]; exact Nat.le_refl _)
  rw [e, e3, splice]

theorem put_form (p0 : Int) (p1 : ByteArray) (off : Int) (s : ByteArray) (at_ : Int) (w : World) (hs : s.size ≤ 140737488351232) (h : ¬ (0 ≤ p0 ∧ p0 ≤ 2147483647 ∧ p1.size = 220)) :
    Calls Try.prog 17 #[.agg #[.int .i64 p0, .string p1], .int .i64 off, .string s, .int .i64 at_] w (Post (.tuple #[.agg #[.int .i64 0, .string ⟨#[]⟩], .int .i64 3]) w) := by
  have hr := right_calls p0 p1 false (by simp [h])
  clear h
  go_enter Try.func17, Try.ntmps17
  go_upto_region 1 with (fail)
  obtain ⟨b0, b1, hz, hB⟩ := two_blocks w (Obj.cells #[Value.int IntKind.i64 p0, Value.string p1] 23) (Obj.cells #[Value.int IntKind.i64 0, Value.string { data := #[] }] 23)
  generalize (w.alloc (Obj.cells #[Value.int IntKind.i64 p0, Value.string p1] 23)).alloc (Obj.cells #[Value.int IntKind.i64 0, Value.string { data := #[] }] 23) = W at *
  have c0 := blk_cell b0 0; have c1 := blk_cell b0 1
  have B0 := Lib.hid b0; have B1 := Lib.hid b1; have HZ := Lib.hid hz; clear b0 b1 hz
  go_wp2_with (go_at_call 21; refine (hr _).mono ?_; rintro e w' ⟨rfl, hb⟩; have b1 := blk_below B1.out hb; have d0 := blk_cell b1 0; have d1 := blk_cell b1 1; have f0 := blk_frozen b1 0; have f1 := blk_frozen b1 1; have B2 := Lib.hid b1; clear b1)
  have b2 := blk_set (blk_set B2.out 0 (.int .i64 0)) 1 (.string ⟨#[]⟩)
  refine bodyPost_ret (results_ct rfl _ _ _ _ _ _ _ rfl b2 Try.underlying23 rfl rfl) rfl ⟨rfl, ?_⟩
  have := HZ.out
  exact ((below_trans hB hb).setCell (by simp) _).setCell (by simp) _

theorem put_arg (p0 : Int) (p1 : ByteArray) (off : Int) (s : ByteArray) (at_ : Int) (w : World) (hs : s.size ≤ 140737488351232) (hp : 0 ≤ p0 ∧ p0 ≤ 2147483647 ∧ p1.size = 220) (h : at_ < 0 ∨ 2147483647 < at_) :
    Calls Try.prog 17 #[.agg #[.int .i64 p0, .string p1], .int .i64 off, .string s, .int .i64 at_] w (Post (.tuple #[.agg #[.int .i64 0, .string ⟨#[]⟩], .int .i64 1]) w) := by
  have hr := right_calls p0 p1 true (by simp [hp])
  clear hp
  rcases h with h | h
  all_goals
    first
    | (have t1 : decide (at_ < 0) = true := by simpa using h)
    | (have t1 : decide (at_ < 0) = false := by simp; omega
       have t2 : decide (2147483647 < at_) = true := by simpa using h)
    go_enter Try.func17, Try.ntmps17
    go_upto_region 1 with (fail)
    obtain ⟨b0, b1, hz, hB⟩ := two_blocks w (Obj.cells #[Value.int IntKind.i64 p0, Value.string p1] 23) (Obj.cells #[Value.int IntKind.i64 0, Value.string { data := #[] }] 23)
    generalize (w.alloc (Obj.cells #[Value.int IntKind.i64 p0, Value.string p1] 23)).alloc (Obj.cells #[Value.int IntKind.i64 0, Value.string { data := #[] }] 23) = W at *
    have c0 := blk_cell b0 0; have c1 := blk_cell b0 1
    have B0 := Lib.hid b0; have B1 := Lib.hid b1; have HZ := Lib.hid hz; clear b0 b1 hz
    go_wp2_with (go_at_call 21; refine (hr _).mono ?_; rintro e w' ⟨rfl, hb⟩; have b1 := blk_below B1.out hb; have d0 := blk_cell b1 0; have d1 := blk_cell b1 1; have f0 := blk_frozen b1 0; have f1 := blk_frozen b1 1; have B2 := Lib.hid b1; clear b1)
    have b2 := blk_set (blk_set B2.out 0 (.int .i64 0)) 1 (.string ⟨#[]⟩)
    refine bodyPost_ret (results_ct rfl _ _ _ _ _ _ _ rfl b2 Try.underlying23 rfl rfl) rfl ⟨rfl, ?_⟩
    have := HZ.out
    exact ((below_trans hB hb).setCell (by simp) _).setCell (by simp) _

theorem put_range (p0 : Int) (p1 : ByteArray) (off : Int) (s : ByteArray) (at_ : Int) (w : World) (hs : s.size ≤ 140737488351232) (hp : 0 ≤ p0 ∧ p0 ≤ 2147483647 ∧ p1.size = 220) (ha : 0 ≤ at_ ∧ at_ ≤ 2147483647) (h : off < 0 ∨ 220 < off ∨ (0 ≤ off ∧ off ≤ 220 ∧ 220 - off < s.size)) :
    Calls Try.prog 17 #[.agg #[.int .i64 p0, .string p1], .int .i64 off, .string s, .int .i64 at_] w (Post (.tuple #[.agg #[.int .i64 0, .string ⟨#[]⟩], .int .i64 2]) w) := by
  have hr := right_calls p0 p1 true (by simp [hp])
  clear hp
  have t1 : decide (at_ < 0) = false := by simp; omega
  have t2 : decide (2147483647 < at_) = false := by simp; omega
  clear ha
  rcases h with h | h | h
  · have t3 : decide (off < 0) = true := by simpa using h
    go_enter Try.func17, Try.ntmps17
    go_upto_region 1 with (fail)
    obtain ⟨b0, b1, hz, hB⟩ := two_blocks w (Obj.cells #[Value.int IntKind.i64 p0, Value.string p1] 23) (Obj.cells #[Value.int IntKind.i64 0, Value.string { data := #[] }] 23)
    generalize (w.alloc (Obj.cells #[Value.int IntKind.i64 p0, Value.string p1] 23)).alloc (Obj.cells #[Value.int IntKind.i64 0, Value.string { data := #[] }] 23) = W at *
    have c0 := blk_cell b0 0; have c1 := blk_cell b0 1
    have B0 := Lib.hid b0; have B1 := Lib.hid b1; have HZ := Lib.hid hz; clear b0 b1 hz
    go_wp2_with (go_at_call 21; refine (hr _).mono ?_; rintro e w' ⟨rfl, hb⟩; have b1 := blk_below B1.out hb; have d0 := blk_cell b1 0; have d1 := blk_cell b1 1; have f0 := blk_frozen b1 0; have f1 := blk_frozen b1 1; have B2 := Lib.hid b1; clear b1)
    have b2 := blk_set (blk_set B2.out 0 (.int .i64 0)) 1 (.string ⟨#[]⟩)
    refine bodyPost_ret (results_ct rfl _ _ _ _ _ _ _ rfl b2 Try.underlying23 rfl rfl) rfl ⟨rfl, ?_⟩
    have := HZ.out
    exact ((below_trans hB hb).setCell (by simp) _).setCell (by simp) _
  · have t3 : decide (off < 0) = false := by simp; omega
    have t4 : decide (220 < off) = true := by simpa using h
    go_enter Try.func17, Try.ntmps17
    go_upto_region 1 with (fail)
    obtain ⟨b0, b1, hz, hB⟩ := two_blocks w (Obj.cells #[Value.int IntKind.i64 p0, Value.string p1] 23) (Obj.cells #[Value.int IntKind.i64 0, Value.string { data := #[] }] 23)
    generalize (w.alloc (Obj.cells #[Value.int IntKind.i64 p0, Value.string p1] 23)).alloc (Obj.cells #[Value.int IntKind.i64 0, Value.string { data := #[] }] 23) = W at *
    have c0 := blk_cell b0 0; have c1 := blk_cell b0 1
    have B0 := Lib.hid b0; have B1 := Lib.hid b1; have HZ := Lib.hid hz; clear b0 b1 hz
    go_wp2_with (go_at_call 21; refine (hr _).mono ?_; rintro e w' ⟨rfl, hb⟩; have b1 := blk_below B1.out hb; have d0 := blk_cell b1 0; have d1 := blk_cell b1 1; have f0 := blk_frozen b1 0; have f1 := blk_frozen b1 1; have B2 := Lib.hid b1; clear b1)
    have b2 := blk_set (blk_set B2.out 0 (.int .i64 0)) 1 (.string ⟨#[]⟩)
    refine bodyPost_ret (results_ct rfl _ _ _ _ _ _ _ rfl b2 Try.underlying23 rfl rfl) rfl ⟨rfl, ?_⟩
    have := HZ.out
    exact ((below_trans hB hb).setCell (by simp) _).setCell (by simp) _
  · obtain ⟨h1, h2, h3⟩ := h
    have t3 : decide (off < 0) = false := by simp; omega
    have t4 : decide (220 < off) = false := by simp; omega
    have t5 : decide (220 - off < (s.size : Int)) = true := by simp; omega
    go_enter Try.func17, Try.ntmps17
    go_upto_region 1 with (fail)
    obtain ⟨b0, b1, hz, hB⟩ := two_blocks w (Obj.cells #[Value.int IntKind.i64 p0, Value.string p1] 23) (Obj.cells #[Value.int IntKind.i64 0, Value.string { data := #[] }] 23)
    generalize (w.alloc (Obj.cells #[Value.int IntKind.i64 p0, Value.string p1] 23)).alloc (Obj.cells #[Value.int IntKind.i64 0, Value.string { data := #[] }] 23) = W at *
    have c0 := blk_cell b0 0; have c1 := blk_cell b0 1
    have B0 := Lib.hid b0; have B1 := Lib.hid b1; have HZ := Lib.hid hz; clear b0 b1 hz
    go_wp2_with (go_at_call 21; refine (hr _).mono ?_; rintro e w' ⟨rfl, hb⟩; have b1 := blk_below B1.out hb; have d0 := blk_cell b1 0; have d1 := blk_cell b1 1; have f0 := blk_frozen b1 0; have f1 := blk_frozen b1 1; have B2 := Lib.hid b1; clear b1)
    have b2 := blk_set (blk_set B2.out 0 (.int .i64 0)) 1 (.string ⟨#[]⟩)
    refine bodyPost_ret (results_ct rfl _ _ _ _ _ _ _ rfl b2 Try.underlying23 rfl rfl) rfl ⟨rfl, ?_⟩
    have := HZ.out
    exact ((below_trans hB hb).setCell (by simp) _).setCell (by simp) _

theorem put_ok (p0 : Int) (p1 : ByteArray) (off : Nat) (s : ByteArray) (at_ : Int) (w : World) (hp : 0 ≤ p0 ∧ p0 ≤ 2147483647 ∧ p1.size = 220) (ha : 0 ≤ at_ ∧ at_ ≤ 2147483647) (h : off + s.size ≤ 220) :
    Calls Try.prog 17 #[.agg #[.int .i64 p0, .string p1], .int .i64 off, .string s, .int .i64 at_] w (Post (.tuple #[.agg #[.int .i64 at_, .string (splice p1 off s)], .int .i64 0]) w) := by
  have hr := right_calls p0 p1 true (by simp [hp])
  have h1 : p1.size = 220 := hp.2.2
  have hsp := splice_cut p1 off s (by omega)
  clear hp
  have t1 : decide (at_ < 0) = false := by simp; omega
  have t2 : decide (2147483647 < at_) = false := by simp; omega
  clear ha
  have t3 : decide ((off : Int) < 0) = false := by simp
  have t4 : decide ((220 : Int) < (off : Int)) = false := by simp; omega
  have t5 : decide (220 - (off : Int) < (s.size : Int)) = false := by simp; omega
  have H1 := Lib.hid h1; have HSP := Lib.hid hsp; clear h1 hsp
  go_enter Try.func17, Try.ntmps17
  go_upto_region 1 with (fail)
  obtain ⟨b0, b1, hz, hB⟩ := two_blocks w (Obj.cells #[Value.int IntKind.i64 p0, Value.string p1] 23) (Obj.cells #[Value.int IntKind.i64 0, Value.string { data := #[] }] 23)
  generalize (w.alloc (Obj.cells #[Value.int IntKind.i64 p0, Value.string p1] 23)).alloc (Obj.cells #[Value.int IntKind.i64 0, Value.string { data := #[] }] 23) = W at *
  have c0 := blk_cell b0 0; have c1 := blk_cell b0 1
  have B0 := Lib.hid b0; have B1 := Lib.hid b1; have HZ := Lib.hid hz; clear b0 b1 hz
  go_upto_region 7 with (go_at_call 21; refine (hr _).mono ?_; rintro e w' ⟨rfl, hb⟩; have b1 := blk_below B1.out hb; have d0 := blk_cell b1 0; have d1 := blk_cell b1 1; have f0 := blk_frozen b1 0; have f1 := blk_frozen b1 1; have B2 := Lib.hid b1; clear b1)
  have b0' := blk_below B0.out hb
  have c2 := blk_cell b0' 1
  have B0' := Lib.hid b0'
  have g1 : (off : Int) ≤ (p1.size : Int) := by have := H1.out; omega
  have g2 : (off : Int) + (s.size : Int) ≤ (p1.size : Int) := by have := H1.out; omega
  have g3 : off ≤ p1.size := by omega
  have g4 : ¬ 9223372036854775807 < off + s.size := by omega
  have g5 : (p1.size : Int) ≤ 220 := by have := H1.out; omega
  clear b0' B0 c0 c1
  go_region
  go_wp2
  have b2 := blk_set (blk_set B2.out 0 (.int .i64 at_)) 1 (.string (p1.extract 0 off ++ s ++ p1.extract (off + s.size) p1.size))
  refine bodyPost_ret (results_ct rfl _ _ _ _ _ _ _ rfl (blk_drew b2) Try.underlying23 rfl rfl) rfl ⟨?_, ?_⟩
  · rw [← HSP.out]; rfl
  · exact (((below_trans hB hb).setCell (by simp) _).setCell (by simp) _).drew

theorem put_calls (p0 : Int) (p1 : ByteArray) (off : Int) (s : ByteArray) (at_ : Int) (w : World) (hs : s.size ≤ 140737488351232) :
    Calls Try.prog 17 #[.agg #[.int .i64 p0, .string p1], .int .i64 off, .string s, .int .i64 at_] w (Post (.tuple #[.agg #[.int .i64 (putF p0 p1 off s at_).1, .string (putF p0 p1 off s at_).2.1], .int .i64 (putF p0 p1 off s at_).2.2]) w) := by
  unfold putF
  by_cases hp : 0 ≤ p0 ∧ p0 ≤ 2147483647 ∧ p1.size = 220
  · rw [if_pos hp]
    by_cases ha : 0 ≤ at_ ∧ at_ ≤ 2147483647
    · rw [if_pos ha]
      by_cases ho : 0 ≤ off ∧ off + s.size ≤ 220
      · rw [if_pos ho]
        obtain ⟨n, rfl⟩ := Int.eq_ofNat_of_zero_le ho.1
        exact put_ok p0 p1 n s at_ w hp ha (by omega)
      · rw [if_neg ho]
        exact put_range p0 p1 off s at_ w hs hp ha (by omega)
    · rw [if_neg ha]
      exact put_arg p0 p1 off s at_ w hs hp (by omega)
  · rw [if_neg hp]
    exact put_form p0 p1 off s at_ w hs hp
end Go.Proofs.Ytlgcmcieipdcgaa.RefPage
