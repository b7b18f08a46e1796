import Derived.Test.YtcelfhoomhmioaaPEZ0
import Derived.Test.YtcelfhoomhmioaaPEZ1
import Derived.Test.YtcelfhoomhmioaaPEZ2
import Derived.Test.YtcelfhoomhmioaaPEZ3
import Derived.Test.YtcelfhoomhmioaaPEZ6
import Derived.Test.YtcelfhoomhmioaaPEZ9
set_option maxRecDepth 8192
namespace Go.Proofs.Ytcelfhoomhmioaa.Wr
open Go.Proofs.Ytcelfhoomhmioaa.Rgn
open Go.Proofs.Ytcelfhoomhmioaa.Rp Go.Proofs.Ytcelfhoomhmioaa.X4
open Go Go.RowKit Go.ChangeMaps Go.Proofs.Ytcelfhoomhmioaa.Arr Go.Proofs.Ytcelfhoomhmioaa.Ow Go.Proofs.YtcelfhoomhmioaaW.PrintWords Go.Proofs.YtcelfhoomhmioaaW.PrintLast Go.Proofs.YtcelfhoomhmioaaW.PrintMore
set_option linter.unusedVariables false
set_option linter.unusedSimpArgs false
def rec11T.T11 : Bool × List (List Nat × List Nat) := (true, [([], []), ([0], [0]), ([1], [1]), ([2], [2]), ([], []), ([4], [4]), ([5], [5]), ([6], [6]), ([], []), ([8], [8]), ([9], [9]), ([10], [10]), ([], []), ([12], [12]), ([13], [13]), ([14], [14]), ([], []), ([16], [16]), ([17], [17]), ([18], [18]), ([], []), ([20], [20]), ([21], [21]), ([22], [22]), ([0, 1, 2, 3], []), ([24, 3, 0, 1, 2, 3], [3, 24]), ([0, 1, 2, 3, 4, 5, 6, 7, 24, 25], []), ([26, 7, 25, 0, 1, 2, 3, 4, 5, 6, 7, 24, 25], [7, 26]), ([0, 1, 2, 3, 4, 5, 6, 7, 8, 9, 10, 11, 24, 25, 26, 27], []), ([28, 11, 27, 0, 1, 2, 3, 4, 5, 6, 7, 8, 9, 10, 11, 24, 25, 26, 27], [11, 28]), ([0, 1, 2, 3, 4, 5, 6, 7, 8, 9, 10, 11, 12, 13, 14, 15, 24, 25, 26, 27, 28, 29], []), ([30, 15, 29, 0, 1, 2, 3, 4, 5, 6, 7, 8, 9, 10, 11, 12, 13, 14, 15, 24, 25, 26, 27, 28, 29], [15, 30]), ([0, 1, 2, 3, 4, 5, 6, 7, 8, 9, 10, 11, 12, 13, 14, 15, 16, 17, 18, 19, 24, 25, 26, 27, 28, 29, 30, 31], []), ([32, 19, 31, 0, 1, 2, 3, 4, 5, 6, 7, 8, 9, 10, 11, 12, 13, 14, 15, 16, 17, 18, 19, 24, 25, 26, 27, 28, 29, 30, 31], [19, 32]), ([0, 1, 2, 3, 4, 5, 6, 7, 8, 9, 10, 11, 12, 13, 14, 15, 16, 17, 18, 19, 20, 21, 22, 23, 24, 25, 26, 27, 28, 29, 30, 31, 32, 33], []), ([34, 23, 33, 0, 1, 2, 3, 4, 5, 6, 7, 8, 9, 10, 11, 12, 13, 14, 15, 16, 17, 18, 19, 20, 21, 22, 23, 24, 25, 26, 27, 28, 29, 30, 31, 32, 33], [23, 34])])
def rec11T.B11 : List Nat := [0, 1, 3, 7, 0, 16, 48, 112, 0, 256, 768, 1792, 0, 4096, 12288, 28672, 0, 65536, 196608, 458752, 0, 1048576, 3145728, 7340032, 15, 16777231, 50331903, 117440767, 251662335, 520097791, 1057030143, 2130771967, 4279238655, 8574205951, 17179869183, 34359738367]
theorem rec11T.tab11 : rtab .any (opsOf Try.f52 11) = rec11T.T11 := by kernel_rfl
theorem rec11T.bits11 : waitsOk rec11T.T11.2 rec11T.B11 = true := by kernel_rfl
set_option maxHeartbeats 4000000 in
set_option maxRecDepth 100000 in
theorem rec_one (g : Nat) (l : List UInt8) (b : Nat) (r : S39) (A9 : Option Addr) (c9 : Nat) (A10 : Option Addr) (c10 : Nat) (S : Nat → Prop) (w : World) (hS : Top S w) (h : WK w S g l) (hb : RB w b r A9 c9 A10 c10) (hSb : ¬ S b) (hl : l.length ≤ 800000) (hz : r.f8.size ≤ 1000000) (hk : r.f0 = 1) : Calls Try.prog 52 #[.pointer (some ⟨g, 0, none⟩), .pointer (some ⟨b, 0, none⟩)] w fun x w' => AfterR S g w l r A9 c9 A10 c10 x w' := by
  have HS := Aside0.mk hS; have HW := Aside0.mk h; have HL := Aside0.mk hl; have HZ := Aside0.mk hz; have HB := Aside0.mk hb; have HSB := Aside0.mk hSb; have HK_ := Aside0.mk hk
  clear hS h hl hb hSb hz
  have HSM := Aside0.mk (show smallP r.f0 6 = some [b8 r.f0] by unfold smallP; rw [if_pos (by rw [hk]; omega)])
  have HS1 := Aside0.mk (top_less HS.out (.cells #[.int .i64 0, .int .i64 0, .int .i64 0, .int .i64 0, .int .i64 0, .int .i64 0, .int .i64 0, .string ⟨#[]⟩, .string ⟨#[]⟩, .slice none 0 0, .slice none 0 0] 39))
  have HW1 := Aside0.mk (wk_less HW.out (.cells #[.int .i64 0, .int .i64 0, .int .i64 0, .int .i64 0, .int .i64 0, .int .i64 0, .int .i64 0, .string ⟨#[]⟩, .string ⟨#[]⟩, .slice none 0 0, .slice none 0 0] 39))
  have F := Aside0.mk ((FS.refl S w).alloc (.cells #[.int .i64 0, .int .i64 0, .int .i64 0, .int .i64 0, .int .i64 0, .int .i64 0, .int .i64 0, .string ⟨#[]⟩, .string ⟨#[]⟩, .slice none 0 0, .slice none 0 0] 39))
  have B4 := Aside0.mk (heap_alloc_new w (.cells #[.int .i64 0, .int .i64 0, .int .i64 0, .int .i64 0, .int .i64 0, .int .i64 0, .int .i64 0, .string ⟨#[]⟩, .string ⟨#[]⟩, .slice none 0 0, .slice none 0 0] 39))
  have R1 := Aside0.mk (show RB (w.alloc (.cells #[.int .i64 0, .int .i64 0, .int .i64 0, .int .i64 0, .int .i64 0, .int .i64 0, .int .i64 0, .string ⟨#[]⟩, .string ⟨#[]⟩, .slice none 0 0, .slice none 0 0] 39)) b r A9 c9 A10 c10 from F.out.old HB.out HSB.out)
  have q0 : (w.alloc (.cells #[.int .i64 0, .int .i64 0, .int .i64 0, .int .i64 0, .int .i64 0, .int .i64 0, .int .i64 0, .string ⟨#[]⟩, .string ⟨#[]⟩, .slice none 0 0, .slice none 0 0] 39)).cell? ⟨b, 0, none⟩ = some (.int .i64 1) := (blk_cell R1.out 0).trans (by rw [← hk]; rfl)
  go_enter Try.func52, Try.ntmps52
  go_upto_region 1 with (fail)
  generalize w.alloc (.cells #[.int .i64 0, .int .i64 0, .int .i64 0, .int .i64 0, .int .i64 0, .int .i64 0, .int .i64 0, .string ⟨#[]⟩, .string ⟨#[]⟩, .slice none 0 0, .slice none 0 0] 39) = W1 at *
  have F1 := Aside0.mk (FS.refl (Less S w.heap.size) W1)
  clear hk
  go_upto_region 2 with (go_at_call 67; refine (small_calls g l 1 6 (Less S w.heap.size) _ HS1.out HW1.out (by have := HL.out; omega)).mono ?_; rintro e w1 hx; rw [show smallP 1 6 = some [b8 1] from rfl] at hx; obtain ⟨rfl, hk1, hf1⟩ := hx; have HW1_n := Aside0.mk hk1; have F1_n := Aside0.mk (F1.out.trans hf1); clear HW1 F1 hk1 hf1 HW; have HW1 := HW1_n; have F1 := F1_n; clear HW1_n F1_n)
  have R2 := Aside0.mk (show RB w1 b r A9 c9 A10 c10 from F1.out.old R1.out (fun e => HSB.out e.1))
  have B4b := Aside0.mk (F1.out.old B4.out (not_less _ _))
  clear q0 R1 B4
  have q0 : w1.cell? ⟨b, 0, none⟩ = some (.int .i64 1) := (blk_cell R2.out 0).trans (by rw [← HK_.out]; rfl)
  have HS2 := Aside0.mk (top_less (HS1.out.next F1.out.size) (.cells #[.int .i64 1, .int .i64 0, .int .i64 0, .int .i64 0, .int .i64 0, .int .i64 0, .int .i64 0, .string ⟨#[]⟩, .string ⟨#[]⟩, .slice none 0 0, .slice none 0 0] 39))
  have HW2 := Aside0.mk (wk_less HW1.out (.cells #[.int .i64 1, .int .i64 0, .int .i64 0, .int .i64 0, .int .i64 0, .int .i64 0, .int .i64 0, .string ⟨#[]⟩, .string ⟨#[]⟩, .slice none 0 0, .slice none 0 0] 39))
  have B5 := Aside0.mk (heap_alloc_new w1 (.cells #[.int .i64 1, .int .i64 0, .int .i64 0, .int .i64 0, .int .i64 0, .int .i64 0, .int .i64 0, .string ⟨#[]⟩, .string ⟨#[]⟩, .slice none 0 0, .slice none 0 0] 39))
  have F2_n := Aside0.mk ((FS.refl (Less S w.heap.size) w1).alloc (.cells #[.int .i64 1, .int .i64 0, .int .i64 0, .int .i64 0, .int .i64 0, .int .i64 0, .int .i64 0, .string ⟨#[]⟩, .string ⟨#[]⟩, .slice none 0 0, .slice none 0 0] 39))
  have F_n := Aside0.mk (F.out.trans (FS.more (F1.out.trans F2_n.out)))
  have R3 := Aside0.mk (show RB _ b r A9 c9 A10 c10 from F2_n.out.old R2.out (fun e => HSB.out e.1))
  have B4c := Aside0.mk (F2_n.out.old B4b.out (not_less _ _))
  have HN1 := Aside0.mk (Nat.ne_of_lt (blk_lt B4b.out)); have HSZ := Aside0.mk (show w.heap.size ≤ w1.heap.size from Nat.le_of_lt (blk_lt B4b.out))
  clear F F1 F2_n R2 B4b HS1 HW1
  go_upto_region 3 with (fail)
  generalize w1.alloc (.cells #[.int .i64 1, .int .i64 0, .int .i64 0, .int .i64 0, .int .i64 0, .int .i64 0, .int .i64 0, .string ⟨#[]⟩, .string ⟨#[]⟩, .slice none 0 0, .slice none 0 0] 39) = W2 at *
  clear q0
  have q0 : W2.cell? ⟨b, 0, none⟩ = some (.int .i64 1) := (blk_cell R3.out 0).trans (by rw [← HK_.out]; rfl)
  have FW := Aside0.mk (FS.refl (Less (Less S w.heap.size) w1.heap.size) W2)
  have HW := HW2; clear HW2
  have HE := Aside0.mk (show recP r = cat (some [b8 r.f0]) (cat (txnP r.f1) (cat (numP [r.f4]) (cat (placeP r.f2 r.f3 r.f8.size) (if r.f7.size = r.f8.size then some (r.f7.data.toList ++ r.f8.data.toList) else none)))) by unfold recP bodyP; rw [HSM.out, if_pos HK_.out])
  have HO := Aside0.mk (show ownR r = (⟨1, r.f1, r.f2, r.f3, r.f4, 0, 0, r.f7, r.f8, [], []⟩ : S39) by unfold ownR; rw [if_pos HK_.out])
  have HS5 := Aside0.mk (show S w1.heap.size from HS.out _ HSZ.out)
  have HSB5 := Aside0.mk (show b ≠ w1.heap.size from fun e => HSB.out (by rw [e]; exact HS5.out))
  go_upto_region 6 with (fail)
  have q1 : W2.cell? ⟨b, 1, none⟩ = some (.int .i64 r.f1) := blk_cell R3.out.at 1
  cases hp1 : txnP r.f1 with
  | none =>
    have HP1 := Aside0.mk hp1; clear hp1
    go_wp2_with (go_at_call 68; refine (txn_calls g (l ++ [b8 1]) r.f1 (Less (Less S w.heap.size) w1.heap.size) _ (HS2.out.next FW.out.size) HW.out (by simp only [List.length_append, List.length_cons, List.length_nil]; have := HL.out;  omega)).mono ?_; rintro e w9 hx; rw [HP1.out] at hx; obtain ⟨rfl, hf⟩ := hx; have FW_n := Aside0.mk (FW.out.trans hf); clear FW; have FW := FW_n; clear FW_n; clear hf)
    refine ⟨rfl, ?_⟩
    show AfterR S g w l r A9 c9 A10 c10 (gaveUp 1) _
    unfold AfterR
    rw [show recP r = none by rw [HE.out, HP1.out]; rfl]
    exact ⟨rfl, F_n.out.trans (FS.more (FS.more FW.out))⟩
  | some t1 =>
  have HP1 := Aside0.mk hp1; have HT1 := Aside0.mk (txn_len hp1); clear hp1
  go_upto_region 7 with (go_at_call 68; refine (txn_calls g (l ++ [b8 1]) r.f1 (Less (Less S w.heap.size) w1.heap.size) _ (HS2.out.next FW.out.size) HW.out (by simp only [List.length_append, List.length_cons, List.length_nil]; have := HL.out;  omega)).mono ?_; rintro e w3 hx; rw [HP1.out] at hx; obtain ⟨rfl, hk, hf⟩ := hx; have HW_n := Aside0.mk (hk); have FW_n := Aside0.mk (FW.out.trans hf); clear HW FW; have HW := HW_n; have FW := FW_n; clear HW_n FW_n; clear hk hf)
  have q4 : w3.cell? ⟨b, 4, none⟩ = some (.int .i64 r.f4) := blk_cell (FW.out.old R3.out (fun e => HSB.out e.1.1)) 4
  cases hp2 : numP [r.f4] with
  | none =>
    have HP2 := Aside0.mk hp2; clear hp2
    go_wp2_with (go_at_call 69; refine (num_fresh1 g (l ++ [b8 1] ++ t1) r.f4 (Less (Less S w.heap.size) w1.heap.size) _ (HS2.out.next FW.out.size) HW.out (by simp only [List.length_append, HT1.out, List.length_cons, List.length_nil]; have := HL.out;  omega)).mono ?_; rintro e w9 hx; rw [HP2.out] at hx; obtain ⟨rfl, hf⟩ := hx; have FW_n := Aside0.mk (FW.out.trans hf); clear FW; have FW := FW_n; clear FW_n; clear hf)
    refine ⟨rfl, ?_⟩
    show AfterR S g w l r A9 c9 A10 c10 (gaveUp 1) _
    unfold AfterR
    rw [show recP r = none by rw [HE.out, HP1.out, HP2.out]; rfl]
    exact ⟨rfl, F_n.out.trans (FS.more (FS.more FW.out))⟩
  | some t2 =>
  have HP2 := Aside0.mk hp2; have HT2 := Aside0.mk (num_len hp2); clear hp2
  go_upto_region 8 with (go_at_call 69; refine (num_fresh1 g (l ++ [b8 1] ++ t1) r.f4 (Less (Less S w.heap.size) w1.heap.size) _ (HS2.out.next FW.out.size) HW.out (by simp only [List.length_append, HT1.out, List.length_cons, List.length_nil]; have := HL.out;  omega)).mono ?_; rintro e w4 hx; rw [HP2.out] at hx; obtain ⟨rfl, hk, hf⟩ := hx; have HW_n := Aside0.mk (hk); have FW_n := Aside0.mk (FW.out.trans hf); clear HW FW; have HW := HW_n; have FW := FW_n; clear HW_n FW_n; clear hk hf)
  clear q4
  have RP := Aside0.mk (show RB w4 b r A9 c9 A10 c10 from FW.out.old R3.out (fun e => HSB.out e.1.1))
  cases hp3 : placeP r.f2 r.f3 r.f8.size with
  | none =>
    have HP3 := Aside0.mk hp3; clear hp3
    go_wp2_with (go_at_call 70; refine (place_calls g (l ++ [b8 1] ++ t1 ++ t2) b r A9 c9 A10 c10 (Less (Less S w.heap.size) w1.heap.size) _ (HS2.out.next FW.out.size) HW.out RP.out (fun e => HSB.out e.1.1) (by simp only [List.length_append, HT1.out, HT2.out, List.length_cons, List.length_nil]; have := HL.out;  omega) HZ.out).mono ?_; rintro e w9 hx; rw [HP3.out] at hx; obtain ⟨rfl, hf⟩ := hx; have FW_n := Aside0.mk (FW.out.trans hf); clear FW; have FW := FW_n; clear FW_n; clear hf)
    refine ⟨rfl, ?_⟩
    show AfterR S g w l r A9 c9 A10 c10 (gaveUp 1) _
    unfold AfterR
    rw [show recP r = none by rw [HE.out, HP1.out, HP2.out, HP3.out]; rfl]
    exact ⟨rfl, F_n.out.trans (FS.more (FS.more FW.out))⟩
  | some t3 =>
  have HP3 := Aside0.mk hp3; have HT3 := Aside0.mk (place_len hp3); clear hp3
  go_upto_region 9 with (go_at_call 70; refine (place_calls g (l ++ [b8 1] ++ t1 ++ t2) b r A9 c9 A10 c10 (Less (Less S w.heap.size) w1.heap.size) _ (HS2.out.next FW.out.size) HW.out RP.out (fun e => HSB.out e.1.1) (by simp only [List.length_append, HT1.out, HT2.out, List.length_cons, List.length_nil]; have := HL.out;  omega) HZ.out).mono ?_; rintro e w5 hx; rw [HP3.out] at hx; obtain ⟨rfl, hk, hf⟩ := hx; have HW_n := Aside0.mk (hk); have FW_n := Aside0.mk (FW.out.trans hf); clear HW FW; have HW := HW_n; have FW := FW_n; clear HW_n FW_n; clear hk hf)
  clear RP
  have HW_n := Aside0.mk HW.out.drew; have FW_n := Aside0.mk FW.out.drew; clear HW FW; have HW := HW_n; have FW := FW_n; clear HW_n FW_n
  have z7 : w5.drew.cell? ⟨b, 7, none⟩ = some (.string r.f7) := blk_cell (w := w5.drew) (FW.out.old R3.out (fun e => HSB.out e.1.1)) 7
  have z8 : w5.drew.cell? ⟨b, 8, none⟩ = some (.string r.f8) := blk_cell (w := w5.drew) (FW.out.old R3.out (fun e => HSB.out e.1.1)) 8
  by_cases heq : r.f7.size = r.f8.size
  rotate_left
  · have HNE := Aside0.mk heq
    have e1 : ((r.f7.size : Int) == (r.f8.size : Int)) = false := by rw [beq_eq_false_iff_ne]; omega
    have e2 : (r.f7.size == r.f8.size) = false := by rw [beq_eq_false_iff_ne]; omega
    clear heq
    refine start_ (n := 12) (S := fun w' => w'.cell? ⟨b, 7, none⟩ = some (.string r.f7) ∧ w'.cell? ⟨b, 8, none⟩ = some (.string r.f8)) (ds := []) #[false, false, false, false, false, false, false, false, false, false, false, false] (by kernel_rfl) rfl rfl ⟨z7, z8⟩ (fun hHeld => ?_)
    refine rgp 0 40 ?_
    refine rgp 1 41 ?_
    refine rgp 2 42 ?_
    refine rgp 5 45 ?_
    refine rgp 6 46 ?_
    refine rgp 7 47 ?_
    refine rgt 3 43 hHeld ?_
    refine rgp 4 44 ?_
    refine rgt 8 48 hHeld ?_
    refine rgp 9 49 ?_
    refine rgp 10 50 ?_
    refine one_ (i := 11) (N := some 51) #[true, true, true, true, true, true, true, true, true, true, true, true] rfl rfl (by kernel_rfl) (by decide) (fun K hK => ?_)
    refine goesP_ Try.func50 (by kernel_rfl) rfl #[.bool false, .int .i64 1] (by rfl) rfl rfl (by (try simp only [List.map_toArray, List.map_cons, List.map_nil]); first | done | rfl) ?_
    refine (must_no 1 _).mono ?_
    rintro e v9 ⟨rfl, hw⟩
    replace hw := hw.symm
    subst hw
    refine Or.inr ⟨_, rfl, ?_⟩
    refine ⟨rfl, ?_⟩
    show AfterR S g w l r A9 c9 A10 c10 (gaveUp 1) _
    unfold AfterR
    rw [show recP r = none by rw [HE.out, HP1.out, HP2.out, HP3.out, if_neg HNE.out]; rfl]
    exact ⟨rfl, F_n.out.trans (FS.more (FS.more FW.out))⟩
  have HNE := Aside0.mk heq
  have e1 : ((r.f7.size : Int) == (r.f8.size : Int)) = true := by rw [beq_iff_eq]; omega
  have e2 : (r.f7.size == r.f8.size) = true := by rw [beq_iff_eq]; exact heq
  clear heq
  refine start_ (n := 12) (S := fun w' => w'.cell? ⟨b, 7, none⟩ = some (.string r.f7) ∧ w'.cell? ⟨b, 8, none⟩ = some (.string r.f8)) (ds := []) #[false, false, false, false, false, false, false, false, false, false, false, false] (by kernel_rfl) rfl rfl ⟨z7, z8⟩ (fun hHeld => ?_)
  refine rgp 0 40 ?_
  refine rgp 1 41 ?_
  refine rgp 2 42 ?_
  refine rgp 5 45 ?_
  refine rgp 6 46 ?_
  refine rgp 7 47 ?_
  refine rgt 3 43 hHeld ?_
  refine rgp 4 44 ?_
  refine rgt 8 48 hHeld ?_
  refine rgp 9 49 ?_
  refine rgp 10 50 ?_
  refine one_ (i := 11) (N := some 51) #[true, true, true, true, true, true, true, true, true, true, true, true] rfl rfl (by kernel_rfl) (by decide) (fun K hK => ?_)
  refine goes_ Try.func50 (by kernel_rfl) rfl #[.bool true, .int .i64 1] (by rfl) rfl rfl (by (try simp only [List.map_toArray, List.map_cons, List.map_nil]); first | done | rfl) ?_
  refine (must_yes 1 _).mono ?_
  rintro e v9 ⟨rfl, hw⟩
  replace hw := hw.symm
  subst hw
  refine ⟨_, rfl, ?_⟩
  refine hK _ _ ⟨z7, z8⟩ (fun hHeld => ?_)
  clear hK K
  refine norm_ (a' := ?_) ?_ ?_
  rotate_left
  · show Act.put _ (some 51) _ = _
    simp only [Act.put, List.setIfInBounds_toArray, List.set_cons_zero, List.set_cons_succ, i64_w, i32_w]
    rfl
  refine done_ (by kernel_rfl) ?_
  clear e1 e2 z7 z8
  generalize w5.drew = w6 at *
  simp only [Exit.inBlock, Exit.then]
  go_upto_region 10 with (fail)
  have hadd : (9223372036854775807 < r.f7.size + r.f8.size) = False := by rw [eq_iff_iff, iff_false]; have := HT3.out.2.2; have := HNE.out; omega
  have HW_n := Aside0.mk HW.out.drew; have FW_n := Aside0.mk FW.out.drew; clear HW FW; have HW := HW_n; have FW := FW_n; clear HW_n FW_n
  have z7 : w6.drew.cell? ⟨b, 7, none⟩ = some (.string r.f7) := blk_cell (w := w6.drew) (FW.out.old R3.out (fun e => HSB.out e.1.1)) 7
  have z8 : w6.drew.cell? ⟨b, 8, none⟩ = some (.string r.f8) := blk_cell (w := w6.drew) (FW.out.old R3.out (fun e => HSB.out e.1.1)) 8
  refine start_ (n := 13) (S := fun w' => w'.cell? ⟨b, 7, none⟩ = some (.string r.f7) ∧ w'.cell? ⟨b, 8, none⟩ = some (.string r.f8)) (ds := []) #[false, false, false, false, false, false, false, false, false, false, false, false, false] (by kernel_rfl) rfl rfl ⟨z7, z8⟩ (fun hHeld => ?_)
  refine rgp 0 52 ?_
  refine rgp 1 53 ?_
  refine rgp 2 54 ?_
  refine rgp 3 55 ?_
  refine rgp 4 56 ?_
  refine rgp 5 57 ?_
  refine rgp 7 59 ?_
  refine rgp 8 60 ?_
  refine rgp 9 61 ?_
  refine rgt 6 58 hHeld ?_
  refine rgt 10 62 hHeld ?_
  refine rgp 11 63 ?_
  refine one_ (i := 12) (N := some 64) #[true, true, true, true, true, true, true, true, true, true, true, true, true] rfl rfl (by kernel_rfl) (by decide) (fun K hK => ?_)
  refine goes_ Try.func71 (by kernel_rfl) rfl #[.pointer (some ⟨g, 0, none⟩), .string (r.f7 ++ r.f8)] (by rfl) rfl rfl (by (try simp only [List.map_toArray, List.map_cons, List.map_nil]); first | done | rfl) ?_
  refine (writeString_calls g (l ++ [b8 1] ++ t1 ++ t2 ++ t3) (r.f7 ++ r.f8) (Less (Less S w.heap.size) w1.heap.size) _ (HS2.out.next FW.out.size) HW.out (by rw [ByteArray.size_append]; have := HT3.out.2.2; have := HNE.out; simp only [List.length_append, HT1.out, HT2.out, HT3.out.1, List.length_cons, List.length_nil]; have := HL.out; omega)).mono ?_
  rintro e v1_ ⟨rfl, hk1, hf1⟩
  refine ⟨_, rfl, ?_⟩
  have HW_n := Aside0.mk hk1; have FW_n := Aside0.mk (FW.out.trans hf1); clear HW FW hk1 hf1; have HW := HW_n; have FW := FW_n; clear HW_n FW_n
  refine hK _ _ ⟨blk_cell (w := v1_) (FW.out.old R3.out (fun e => HSB.out e.1.1)) 7, blk_cell (w := v1_) (FW.out.old R3.out (fun e => HSB.out e.1.1)) 8⟩ (fun hHeld => ?_)
  clear hK K z7 z8
  refine norm_ (a' := ?_) ?_ ?_
  rotate_left
  · show Act.put _ (some 64) _ = _
    simp only [Act.put, List.setIfInBounds_toArray, List.set_cons_zero, List.set_cons_succ, i64_w, i32_w]
    rfl
  refine done_ (by kernel_rfl) ?_
  simp only [Exit.inBlock, Exit.then]
  go_upto_region 11 with (fail)
  have RX := Aside0.mk (show RB v1_.drew b r A9 c9 A10 c10 from FW.out.old R3.out (fun e => HSB.out e.1.1))
  have BO := Aside0.mk (show v1_.drew.heap[w1.heap.size]? = some (.cells #[.int .i64 1, .int .i64 0, .int .i64 0, .int .i64 0, .int .i64 0, .int .i64 0, .int .i64 0, .string ⟨#[]⟩, .string ⟨#[]⟩, .slice none 0 0, .slice none 0 0] 39 (0, 0)) from FW.out.old B5.out (not_less _ _))
  have B4d := Aside0.mk (show v1_.drew.heap[w.heap.size]? = some (.cells #[.int .i64 0, .int .i64 0, .int .i64 0, .int .i64 0, .int .i64 0, .int .i64 0, .int .i64 0, .string ⟨#[]⟩, .string ⟨#[]⟩, .slice none 0 0, .slice none 0 0] 39 (0, 0)) from FW.out.old B4c.out (fun e => e.1.2 rfl))
  have FA := Aside0.mk (F_n.out.trans (FS.more (FS.more FW.out))).drew
  have HWA := Aside0.mk HW.out.drew
  have FO := Aside0.mk (FS.refl (fun k => k = w1.heap.size) v1_.drew)
  clear HW FW
  have z1 : v1_.drew.cell? ⟨b, 1, none⟩ = some (.int .i64 r.f1) := blk_cell (w := v1_.drew) RX.out.at 1
  have z2 : v1_.drew.cell? ⟨b, 2, none⟩ = some (.int .i64 r.f2) := blk_cell (w := v1_.drew) RX.out.at 2
  have z3 : v1_.drew.cell? ⟨b, 3, none⟩ = some (.int .i64 r.f3) := blk_cell (w := v1_.drew) RX.out.at 3
  have z4 : v1_.drew.cell? ⟨b, 4, none⟩ = some (.int .i64 r.f4) := blk_cell (w := v1_.drew) RX.out.at 4
  have z7 : v1_.drew.cell? ⟨b, 7, none⟩ = some (.string r.f7) := blk_cell (w := v1_.drew) RX.out.at 7
  have z8 : v1_.drew.cell? ⟨b, 8, none⟩ = some (.string r.f8) := blk_cell (w := v1_.drew) RX.out.at 8
  refine start_ (n := 36) (S := fun w' => w'.cell? ⟨b, 1, none⟩ = some (.int .i64 r.f1) ∧ w'.cell? ⟨b, 2, none⟩ = some (.int .i64 r.f2) ∧ w'.cell? ⟨b, 3, none⟩ = some (.int .i64 r.f3) ∧ w'.cell? ⟨b, 4, none⟩ = some (.int .i64 r.f4) ∧ w'.cell? ⟨b, 7, none⟩ = some (.string r.f7) ∧ w'.cell? ⟨b, 8, none⟩ = some (.string r.f8)) (ds := []) #[false, false, false, false, false, false, false, false, false, false, false, false, false, false, false, false, false, false, false, false, false, false, false, false, false, false, false, false, false, false, false, false, false, false, false, false] (by kernel_rfl) rfl rfl ⟨z1, z2, z3, z4, z7, z8⟩ (fun hHeld => ?_)
  refine with_tabW rec11T.tab11 rec11T.bits11 (fun HT_ HW_ => ?_)
  refine rgpt 0 65 ?_
  refine rgpt 1 66 ?_
  refine rgpt 2 67 ?_
  refine rgpt 4 69 ?_
  refine rgpt 5 70 ?_
  refine rgpt 6 71 ?_
  refine rgpt 8 73 ?_
  refine rgpt 9 74 ?_
  refine rgpt 10 75 ?_
  refine rgpt 12 77 ?_
  refine rgpt 13 78 ?_
  refine rgpt 14 79 ?_
  refine rgpt 16 81 ?_
  refine rgpt 17 82 ?_
  refine rgpt 18 83 ?_
  refine rgpt 20 85 ?_
  refine rgpt 21 86 ?_
  refine rgpt 22 87 ?_
  refine rgtt 3 68 hHeld ?_
  refine rgpt 24 89 ?_
  refine rgtt 7 72 hHeld ?_
  refine rgtt 11 76 hHeld ?_
  refine rgtt 15 80 hHeld ?_
  refine rgtt 19 84 hHeld ?_
  refine rgtt 23 88 hHeld ?_
  refine one_ (i := 25) (N := none) #[true, true, true, true, true, true, true, true, true, true, true, true, true, true, true, true, true, true, true, true, true, true, true, true, true, true, false, false, false, false, false, false, false, false, false, false] rfl rfl (one_of HT_.out (by kernel_rfl)) (by decide) (fun K hK => ?_)
  generalize v1_.drew = X0_ at *
  have cz : X0_.cell? ⟨w1.heap.size, 1, none⟩ = some _ := blk_cell BO.out 1
  have fz : X0_.frozen? ⟨w1.heap.size, 1, none⟩ = false := blk_frozen BO.out 1
  refine skip_ (w1 := ?_) (by kernel_rfl) rfl ?_ ?_
  rotate_left
  · go_simp
    rfl
  have BO_n := Aside0.mk (show (X0_.setCell ⟨w1.heap.size, 1, none⟩ (.int .i64 r.f1)).heap[w1.heap.size]? = some (.cells #[.int .i64 1, .int .i64 r.f1, .int .i64 0, .int .i64 0, .int .i64 0, .int .i64 0, .int .i64 0, .string ⟨#[]⟩, .string ⟨#[]⟩, .slice none 0 0, .slice none 0 0] 39 (0, 0)) from set_blk BO.out 1 (.int .i64 r.f1))
  have FO_n := Aside0.mk (FO.out.setCell (p := ⟨w1.heap.size, 1, none⟩) (.inl rfl) (.int .i64 r.f1))
  clear BO FO cz fz
  generalize X0_.setCell ⟨w1.heap.size, 1, none⟩ (.int .i64 r.f1) = v1_ at *
  have BO := BO_n; have FO := FO_n; clear BO_n FO_n
  have RV := FO.out.old RX.out (fun e => HSB5.out (e : b = w1.heap.size))
  refine hK _ _ ⟨blk_cell (w := v1_) RV 1, blk_cell (w := v1_) RV 2, blk_cell (w := v1_) RV 3, blk_cell (w := v1_) RV 4, blk_cell (w := v1_) RV 7, blk_cell (w := v1_) RV 8⟩ (fun hHeld => ?_)
  clear hK K RV
  refine rgpt 26 90 ?_
  refine one_ (i := 27) (N := none) #[true, true, true, true, true, true, true, true, true, true, true, true, true, true, true, true, true, true, true, true, true, true, true, true, true, true, true, true, false, false, false, false, false, false, false, false] rfl rfl (one_of HT_.out (by kernel_rfl)) (by decide) (fun K hK => ?_)
  have cz : v1_.cell? ⟨w1.heap.size, 4, none⟩ = some _ := blk_cell BO.out 4
  have fz : v1_.frozen? ⟨w1.heap.size, 4, none⟩ = false := blk_frozen BO.out 4
  refine skip_ (w1 := ?_) (by kernel_rfl) rfl ?_ ?_
  rotate_left
  · go_simp
    rfl
  have BO_n := Aside0.mk (show (v1_.setCell ⟨w1.heap.size, 4, none⟩ (.int .i64 r.f4)).heap[w1.heap.size]? = some (.cells #[.int .i64 1, .int .i64 r.f1, .int .i64 0, .int .i64 0, .int .i64 r.f4, .int .i64 0, .int .i64 0, .string ⟨#[]⟩, .string ⟨#[]⟩, .slice none 0 0, .slice none 0 0] 39 (0, 0)) from set_blk BO.out 4 (.int .i64 r.f4))
  have FO_n := Aside0.mk (FO.out.setCell (p := ⟨w1.heap.size, 4, none⟩) (.inl rfl) (.int .i64 r.f4))
  clear BO FO cz fz
  generalize v1_.setCell ⟨w1.heap.size, 4, none⟩ (.int .i64 r.f4) = v2_ at *
  have BO := BO_n; have FO := FO_n; clear BO_n FO_n
  have RV := FO.out.old RX.out (fun e => HSB5.out (e : b = w1.heap.size))
  refine hK _ _ ⟨blk_cell (w := v2_) RV 1, blk_cell (w := v2_) RV 2, blk_cell (w := v2_) RV 3, blk_cell (w := v2_) RV 4, blk_cell (w := v2_) RV 7, blk_cell (w := v2_) RV 8⟩ (fun hHeld => ?_)
  clear hK K RV
  refine rgpt 28 91 ?_
  refine one_ (i := 29) (N := none) #[true, true, true, true, true, true, true, true, true, true, true, true, true, true, true, true, true, true, true, true, true, true, true, true, true, true, true, true, true, true, false, false, false, false, false, false] rfl rfl (one_of HT_.out (by kernel_rfl)) (by decide) (fun K hK => ?_)
  have cz : v2_.cell? ⟨w1.heap.size, 2, none⟩ = some _ := blk_cell BO.out 2
  have fz : v2_.frozen? ⟨w1.heap.size, 2, none⟩ = false := blk_frozen BO.out 2
  refine skip_ (w1 := ?_) (by kernel_rfl) rfl ?_ ?_
  rotate_left
  · go_simp
    rfl
  have BO_n := Aside0.mk (show (v2_.setCell ⟨w1.heap.size, 2, none⟩ (.int .i64 r.f2)).heap[w1.heap.size]? = some (.cells #[.int .i64 1, .int .i64 r.f1, .int .i64 r.f2, .int .i64 0, .int .i64 r.f4, .int .i64 0, .int .i64 0, .string ⟨#[]⟩, .string ⟨#[]⟩, .slice none 0 0, .slice none 0 0] 39 (0, 0)) from set_blk BO.out 2 (.int .i64 r.f2))
  have FO_n := Aside0.mk (FO.out.setCell (p := ⟨w1.heap.size, 2, none⟩) (.inl rfl) (.int .i64 r.f2))
  clear BO FO cz fz
  generalize v2_.setCell ⟨w1.heap.size, 2, none⟩ (.int .i64 r.f2) = v3_ at *
  have BO := BO_n; have FO := FO_n; clear BO_n FO_n
  have RV := FO.out.old RX.out (fun e => HSB5.out (e : b = w1.heap.size))
  refine hK _ _ ⟨blk_cell (w := v3_) RV 1, blk_cell (w := v3_) RV 2, blk_cell (w := v3_) RV 3, blk_cell (w := v3_) RV 4, blk_cell (w := v3_) RV 7, blk_cell (w := v3_) RV 8⟩ (fun hHeld => ?_)
  clear hK K RV
  refine rgpt 30 92 ?_
  refine one_ (i := 31) (N := none) #[true, true, true, true, true, true, true, true, true, true, true, true, true, true, true, true, true, true, true, true, true, true, true, true, true, true, true, true, true, true, true, true, false, false, false, false] rfl rfl (one_of HT_.out (by kernel_rfl)) (by decide) (fun K hK => ?_)
  have cz : v3_.cell? ⟨w1.heap.size, 3, none⟩ = some _ := blk_cell BO.out 3
  have fz : v3_.frozen? ⟨w1.heap.size, 3, none⟩ = false := blk_frozen BO.out 3
  refine skip_ (w1 := ?_) (by kernel_rfl) rfl ?_ ?_
  rotate_left
  · go_simp
    rfl
  have BO_n := Aside0.mk (show (v3_.setCell ⟨w1.heap.size, 3, none⟩ (.int .i64 r.f3)).heap[w1.heap.size]? = some (.cells #[.int .i64 1, .int .i64 r.f1, .int .i64 r.f2, .int .i64 r.f3, .int .i64 r.f4, .int .i64 0, .int .i64 0, .string ⟨#[]⟩, .string ⟨#[]⟩, .slice none 0 0, .slice none 0 0] 39 (0, 0)) from set_blk BO.out 3 (.int .i64 r.f3))
  have FO_n := Aside0.mk (FO.out.setCell (p := ⟨w1.heap.size, 3, none⟩) (.inl rfl) (.int .i64 r.f3))
  clear BO FO cz fz
  generalize v3_.setCell ⟨w1.heap.size, 3, none⟩ (.int .i64 r.f3) = v4_ at *
  have BO := BO_n; have FO := FO_n; clear BO_n FO_n
  have RV := FO.out.old RX.out (fun e => HSB5.out (e : b = w1.heap.size))
  refine hK _ _ ⟨blk_cell (w := v4_) RV 1, blk_cell (w := v4_) RV 2, blk_cell (w := v4_) RV 3, blk_cell (w := v4_) RV 4, blk_cell (w := v4_) RV 7, blk_cell (w := v4_) RV 8⟩ (fun hHeld => ?_)
  clear hK K RV
  refine rgpt 32 93 ?_
  refine one_ (i := 33) (N := none) #[true, true, true, true, true, true, true, true, true, true, true, true, true, true, true, true, true, true, true, true, true, true, true, true, true, true, true, true, true, true, true, true, true, true, false, false] rfl rfl (one_of HT_.out (by kernel_rfl)) (by decide) (fun K hK => ?_)
  have cz : v4_.cell? ⟨w1.heap.size, 7, none⟩ = some _ := blk_cell BO.out 7
  have fz : v4_.frozen? ⟨w1.heap.size, 7, none⟩ = false := blk_frozen BO.out 7
  refine skip_ (w1 := ?_) (by kernel_rfl) rfl ?_ ?_
  rotate_left
  · go_simp
    rfl
  have BO_n := Aside0.mk (show (v4_.setCell ⟨w1.heap.size, 7, none⟩ (.string r.f7)).heap[w1.heap.size]? = some (.cells #[.int .i64 1, .int .i64 r.f1, .int .i64 r.f2, .int .i64 r.f3, .int .i64 r.f4, .int .i64 0, .int .i64 0, .string r.f7, .string ⟨#[]⟩, .slice none 0 0, .slice none 0 0] 39 (0, 0)) from set_blk BO.out 7 (.string r.f7))
  have FO_n := Aside0.mk (FO.out.setCell (p := ⟨w1.heap.size, 7, none⟩) (.inl rfl) (.string r.f7))
  clear BO FO cz fz
  generalize v4_.setCell ⟨w1.heap.size, 7, none⟩ (.string r.f7) = v5_ at *
  have BO := BO_n; have FO := FO_n; clear BO_n FO_n
  have RV := FO.out.old RX.out (fun e => HSB5.out (e : b = w1.heap.size))
  refine hK _ _ ⟨blk_cell (w := v5_) RV 1, blk_cell (w := v5_) RV 2, blk_cell (w := v5_) RV 3, blk_cell (w := v5_) RV 4, blk_cell (w := v5_) RV 7, blk_cell (w := v5_) RV 8⟩ (fun hHeld => ?_)
  clear hK K RV
  refine rgpt 34 94 ?_
  refine one_ (i := 35) (N := none) #[true, true, true, true, true, true, true, true, true, true, true, true, true, true, true, true, true, true, true, true, true, true, true, true, true, true, true, true, true, true, true, true, true, true, true, true] rfl rfl (one_of HT_.out (by kernel_rfl)) (by decide) (fun K hK => ?_)
  have cz : v5_.cell? ⟨w1.heap.size, 8, none⟩ = some _ := blk_cell BO.out 8
  have fz : v5_.frozen? ⟨w1.heap.size, 8, none⟩ = false := blk_frozen BO.out 8
  refine skip_ (w1 := ?_) (by kernel_rfl) rfl ?_ ?_
  rotate_left
  · go_simp
    rfl
  have BO_n := Aside0.mk (show (v5_.setCell ⟨w1.heap.size, 8, none⟩ (.string r.f8)).heap[w1.heap.size]? = some (.cells #[.int .i64 1, .int .i64 r.f1, .int .i64 r.f2, .int .i64 r.f3, .int .i64 r.f4, .int .i64 0, .int .i64 0, .string r.f7, .string r.f8, .slice none 0 0, .slice none 0 0] 39 (0, 0)) from set_blk BO.out 8 (.string r.f8))
  have FO_n := Aside0.mk (FO.out.setCell (p := ⟨w1.heap.size, 8, none⟩) (.inl rfl) (.string r.f8))
  clear BO FO cz fz
  generalize v5_.setCell ⟨w1.heap.size, 8, none⟩ (.string r.f8) = v6_ at *
  have BO := BO_n; have FO := FO_n; clear BO_n FO_n
  have RV := FO.out.old RX.out (fun e => HSB5.out (e : b = w1.heap.size))
  refine hK _ _ ⟨blk_cell (w := v6_) RV 1, blk_cell (w := v6_) RV 2, blk_cell (w := v6_) RV 3, blk_cell (w := v6_) RV 4, blk_cell (w := v6_) RV 7, blk_cell (w := v6_) RV 8⟩ (fun hHeld => ?_)
  clear hK K RV
  refine done_ (done_of HT_.out (by kernel_rfl)) ?_
  have HWV := Aside0.mk (HWA.out.kept FO.out (fun k hk e => hk.2 e))
  have FV := Aside0.mk (FA.out.trans (FO.out.mono (S2 := S) (fun k _ e => by rw [e]; exact HS5.out)))
  have B4 := Aside0.mk (FO.out.old B4d.out (fun e => HN1.out (e : w.heap.size = w1.heap.size)))
  have y0 := blk_cell (w := v6_) B4.out 0; have x0 := blk_cell (w := v6_) BO.out 0; have f0 := blk_frozen (w := v6_) B4.out 0
  have y1 := blk_cell (w := v6_) B4.out 1; have x1 := blk_cell (w := v6_) BO.out 1; have f1 := blk_frozen (w := v6_) B4.out 1
  have y2 := blk_cell (w := v6_) B4.out 2; have x2 := blk_cell (w := v6_) BO.out 2; have f2 := blk_frozen (w := v6_) B4.out 2
  have y3 := blk_cell (w := v6_) B4.out 3; have x3 := blk_cell (w := v6_) BO.out 3; have f3 := blk_frozen (w := v6_) B4.out 3
  have y4 := blk_cell (w := v6_) B4.out 4; have x4 := blk_cell (w := v6_) BO.out 4; have f4 := blk_frozen (w := v6_) B4.out 4
  have y5 := blk_cell (w := v6_) B4.out 5; have x5 := blk_cell (w := v6_) BO.out 5; have f5 := blk_frozen (w := v6_) B4.out 5
  have y6 := blk_cell (w := v6_) B4.out 6; have x6 := blk_cell (w := v6_) BO.out 6; have f6 := blk_frozen (w := v6_) B4.out 6
  have y7 := blk_cell (w := v6_) B4.out 7; have x7 := blk_cell (w := v6_) BO.out 7; have f7 := blk_frozen (w := v6_) B4.out 7
  have y8 := blk_cell (w := v6_) B4.out 8; have x8 := blk_cell (w := v6_) BO.out 8; have f8 := blk_frozen (w := v6_) B4.out 8
  have y9 := blk_cell (w := v6_) B4.out 9; have x9 := blk_cell (w := v6_) BO.out 9; have f9 := blk_frozen (w := v6_) B4.out 9
  have y10 := blk_cell (w := v6_) B4.out 10; have x10 := blk_cell (w := v6_) BO.out 10; have f10 := blk_frozen (w := v6_) B4.out 10
  clear FA HWA FO B4d BO B4
  simp only [Exit.inBlock, Exit.then]
  go_wp2
  have HS4 := Aside0.mk (show S w.heap.size from HS.out _ (Nat.le_refl _))
  refine bodyPost_ret (v := .agg #[.int .i64 1, .int .i64 r.f1, .int .i64 r.f2, .int .i64 r.f3, .int .i64 r.f4, .int .i64 0, .int .i64 0, .string r.f7, .string r.f8, .slice none 0 0, .slice none 0 0]) (by simp [results, Try.results52, go_sem, y0, y1, y2, y3, y4, y5, y6, y7, y8, y9, y10]) rfl ?_
  show AfterR S g w l r A9 c9 A10 c10 _ _
  unfold AfterR
  rw [show recP r = some ([b8 r.f0] ++ (t1 ++ (t2 ++ (t3 ++ (r.f7.data.toList ++ r.f8.data.toList))))) by rw [HE.out, HP1.out, HP2.out, HP3.out, if_pos HNE.out]; rfl, HO.out, HK_.out]
  refine ⟨⟨none, 0, none, 0, rfl, .inr ⟨by decide, rfl, rfl, rfl, rfl⟩⟩, ?_, ?_⟩
  · rw [show l ++ ([b8 1] ++ (t1 ++ (t2 ++ (t3 ++ (r.f7.data.toList ++ r.f8.data.toList))))) = l ++ [b8 1] ++ t1 ++ t2 ++ t3 ++ (r.f7 ++ r.f8).data.toList by simp only [List.append_assoc, List.append_nil, ByteArray.data_append, Array.toList_append]]
    refine WK.more (b := w.heap.size) (WK.more (b := w1.heap.size) (HWV.out.kept (S2 := fun k => k = w.heap.size) ?_ (fun k hk e => hk.1.2 e)))
    repeat (first | (with_reducible refine FS.set1 ?_ _ _) | (with_reducible exact FS.refl _ _))
  · repeat (first | (with_reducible refine FS.setS ?_ HS4.out _ _) | (with_reducible exact FV.out))
end Go.Proofs.Ytcelfhoomhmioaa.Wr
