import Derived.Test.YtcelfhoomhmioaaPEZ0
import Derived.Test.YtcelfhoomhmioaaPEZ1
import Derived.Test.YtcelfhoomhmioaaPEZ2
import Derived.Test.YtcelfhoomhmioaaPEZ3
import Derived.Test.YtcelfhoomhmioaaPEZ6
import Derived.Test.YtcelfhoomhmioaaPEZ9
set_option maxRecDepth 8192
namespace Go.Proofs.Ytcelfhoomhmioaa.Wr
open Go.Proofs.Ytcelfhoomhmioaa.Rgn
open Go.Proofs.Ytcelfhoomhmioaa.Rp Go.Proofs.Ytcelfhoomhmioaa.X4
open Go Go.RowKit Go.ChangeMaps Go.Proofs.Ytcelfhoomhmioaa.Arr Go.Proofs.Ytcelfhoomhmioaa.Ow Go.Proofs.YtcelfhoomhmioaaW.PrintWords Go.Proofs.YtcelfhoomhmioaaW.PrintLast Go.Proofs.YtcelfhoomhmioaaW.PrintMore
set_option linter.unusedVariables false
set_option linter.unusedSimpArgs false
set_option maxHeartbeats 4000000 in
set_option maxRecDepth 100000 in
theorem rec_six (g : Nat) (l : List UInt8) (b : Nat) (r : S39) (A9 : Option Addr) (c9 : Nat) (A10 : Option Addr) (c10 : Nat) (S : Nat → Prop) (w : World) (hS : Top S w) (h : WK w S g l) (hb : RB w b r A9 c9 A10 c10) (hSb : ¬ S b) (hl : l.length ≤ 800000) (hz : r.f8.size ≤ 1000000) (h9 : ∀ w', FS S w w' → Kd.C k134 w' A9 r.f9.length r.f9) (h10 : ∀ w', FS S w w' → Kd.C k70 w' A10 r.f10.length r.f10) (hk : r.f0 = 6) : Calls Try.prog 52 #[.pointer (some ⟨g, 0, none⟩), .pointer (some ⟨b, 0, none⟩)] w fun x w' => AfterR S g w l r A9 c9 A10 c10 x w' := by
  have H9 := Aside0.mk h9; have H10 := Aside0.mk h10; clear h9 h10
  have HS := Aside0.mk hS; have HW := Aside0.mk h; have HL := Aside0.mk hl; have HZ := Aside0.mk hz; have HB := Aside0.mk hb; have HSB := Aside0.mk hSb; have HK_ := Aside0.mk hk
  clear hS h hl hb hSb hz
  have HSM := Aside0.mk (show smallP r.f0 6 = some [b8 r.f0] by unfold smallP; rw [if_pos (by rw [hk]; omega)])
  have HS1 := Aside0.mk (top_less HS.out (.cells #[.int .i64 0, .int .i64 0, .int .i64 0, .int .i64 0, .int .i64 0, .int .i64 0, .int .i64 0, .string ⟨#[]⟩, .string ⟨#[]⟩, .slice none 0 0, .slice none 0 0] 39))
  have HW1 := Aside0.mk (wk_less HW.out (.cells #[.int .i64 0, .int .i64 0, .int .i64 0, .int .i64 0, .int .i64 0, .int .i64 0, .int .i64 0, .string ⟨#[]⟩, .string ⟨#[]⟩, .slice none 0 0, .slice none 0 0] 39))
  have F := Aside0.mk ((FS.refl S w).alloc (.cells #[.int .i64 0, .int .i64 0, .int .i64 0, .int .i64 0, .int .i64 0, .int .i64 0, .int .i64 0, .string ⟨#[]⟩, .string ⟨#[]⟩, .slice none 0 0, .slice none 0 0] 39))
  have B4 := Aside0.mk (heap_alloc_new w (.cells #[.int .i64 0, .int .i64 0, .int .i64 0, .int .i64 0, .int .i64 0, .int .i64 0, .int .i64 0, .string ⟨#[]⟩, .string ⟨#[]⟩, .slice none 0 0, .slice none 0 0] 39))
  have R1 := Aside0.mk (show RB (w.alloc (.cells #[.int .i64 0, .int .i64 0, .int .i64 0, .int .i64 0, .int .i64 0, .int .i64 0, .int .i64 0, .string ⟨#[]⟩, .string ⟨#[]⟩, .slice none 0 0, .slice none 0 0] 39)) b r A9 c9 A10 c10 from F.out.old HB.out HSB.out)
  have q0 : (w.alloc (.cells #[.int .i64 0, .int .i64 0, .int .i64 0, .int .i64 0, .int .i64 0, .int .i64 0, .int .i64 0, .string ⟨#[]⟩, .string ⟨#[]⟩, .slice none 0 0, .slice none 0 0] 39)).cell? ⟨b, 0, none⟩ = some (.int .i64 6) := (blk_cell R1.out 0).trans (by rw [← hk]; rfl)
  go_enter Try.func52, Try.ntmps52
  go_upto_region 1 with (fail)
  generalize w.alloc (.cells #[.int .i64 0, .int .i64 0, .int .i64 0, .int .i64 0, .int .i64 0, .int .i64 0, .int .i64 0, .string ⟨#[]⟩, .string ⟨#[]⟩, .slice none 0 0, .slice none 0 0] 39) = W1 at *
  have F1 := Aside0.mk (FS.refl (Less S w.heap.size) W1)
  clear hk
  go_upto_region 2 with (go_at_call 67; refine (small_calls g l 6 6 (Less S w.heap.size) _ HS1.out HW1.out (by have := HL.out; omega)).mono ?_; rintro e w1 hx; rw [show smallP 6 6 = some [b8 6] from rfl] at hx; obtain ⟨rfl, hk1, hf1⟩ := hx; have HW1_n := Aside0.mk hk1; have F1_n := Aside0.mk (F1.out.trans hf1); clear HW1 F1 hk1 hf1 HW; have HW1 := HW1_n; have F1 := F1_n; clear HW1_n F1_n)
  have R2 := Aside0.mk (show RB w1 b r A9 c9 A10 c10 from F1.out.old R1.out (fun e => HSB.out e.1))
  have B4b := Aside0.mk (F1.out.old B4.out (not_less _ _))
  clear q0 R1 B4
  have q0 : w1.cell? ⟨b, 0, none⟩ = some (.int .i64 6) := (blk_cell R2.out 0).trans (by rw [← HK_.out]; rfl)
  have HS2 := Aside0.mk (top_less (HS1.out.next F1.out.size) (.cells #[.int .i64 6, .int .i64 0, .int .i64 0, .int .i64 0, .int .i64 0, .int .i64 0, .int .i64 0, .string ⟨#[]⟩, .string ⟨#[]⟩, .slice none 0 0, .slice none 0 0] 39))
  have HW2 := Aside0.mk (wk_less HW1.out (.cells #[.int .i64 6, .int .i64 0, .int .i64 0, .int .i64 0, .int .i64 0, .int .i64 0, .int .i64 0, .string ⟨#[]⟩, .string ⟨#[]⟩, .slice none 0 0, .slice none 0 0] 39))
  have B5 := Aside0.mk (heap_alloc_new w1 (.cells #[.int .i64 6, .int .i64 0, .int .i64 0, .int .i64 0, .int .i64 0, .int .i64 0, .int .i64 0, .string ⟨#[]⟩, .string ⟨#[]⟩, .slice none 0 0, .slice none 0 0] 39))
  have F2_n := Aside0.mk ((FS.refl (Less S w.heap.size) w1).alloc (.cells #[.int .i64 6, .int .i64 0, .int .i64 0, .int .i64 0, .int .i64 0, .int .i64 0, .int .i64 0, .string ⟨#[]⟩, .string ⟨#[]⟩, .slice none 0 0, .slice none 0 0] 39))
  have F_n := Aside0.mk (F.out.trans (FS.more (F1.out.trans F2_n.out)))
  have R3 := Aside0.mk (show RB _ b r A9 c9 A10 c10 from F2_n.out.old R2.out (fun e => HSB.out e.1))
  have B4c := Aside0.mk (F2_n.out.old B4b.out (not_less _ _))
  have HN1 := Aside0.mk (Nat.ne_of_lt (blk_lt B4b.out)); have HSZ := Aside0.mk (show w.heap.size ≤ w1.heap.size from Nat.le_of_lt (blk_lt B4b.out))
  clear F F1 F2_n R2 B4b HS1 HW1
  go_upto_region 3 with (fail)
  generalize w1.alloc (.cells #[.int .i64 6, .int .i64 0, .int .i64 0, .int .i64 0, .int .i64 0, .int .i64 0, .int .i64 0, .string ⟨#[]⟩, .string ⟨#[]⟩, .slice none 0 0, .slice none 0 0] 39) = W2 at *
  clear q0
  have q0 : W2.cell? ⟨b, 0, none⟩ = some (.int .i64 6) := (blk_cell R3.out 0).trans (by rw [← HK_.out]; rfl)
  have FW := Aside0.mk (FS.refl (Less (Less S w.heap.size) w1.heap.size) W2)
  have HW := HW2; clear HW2
  have HE := Aside0.mk (show recP r = cat (some [b8 r.f0]) (tablesP r) by unfold recP bodyP; rw [HSM.out, if_neg (by have := HK_.out; omega), if_neg (by have := HK_.out; omega), if_neg (by have := HK_.out; omega), if_neg (by have := HK_.out; omega), if_pos HK_.out])
  have HO := Aside0.mk (show ownR r = (⟨6, 0, 0, 0, 0, 0, r.f6, ⟨#[]⟩, ⟨#[]⟩, r.f9, r.f10⟩ : S39) by unfold ownR; rw [if_neg (by have := HK_.out; omega), if_neg (by have := HK_.out; omega), if_neg (by have := HK_.out; omega), if_pos HK_.out])
  have HS5 := Aside0.mk (show S w1.heap.size from HS.out _ HSZ.out)
  have HSB5 := Aside0.mk (show b ≠ w1.heap.size from fun e => HSB.out (by rw [e]; exact HS5.out))
  go_upto_region 25 with (fail)
  have RP := Aside0.mk (show RB W2 b r A9 c9 A10 c10 from FW.out.old R3.out (fun e => HSB.out e.1.1))
  cases hp1 : tablesP r with
  | none =>
    have HP1 := Aside0.mk hp1; clear hp1
    go_wp2_with (go_at_call 72; refine (tables_calls g (l ++ [b8 6]) b r A9 c9 A10 c10 (Less (Less S w.heap.size) w1.heap.size) _ (HS2.out.next FW.out.size) HW.out RP.out (fun e => HSB.out e.1.1) (fun w' hf => H9.out w' (F_n.out.trans (FS.more (FS.more (FW.out.trans hf))))) (fun w' hf => H10.out w' (F_n.out.trans (FS.more (FS.more (FW.out.trans hf))))) (by simp only [List.length_append, List.length_cons, List.length_nil]; have := HL.out;  omega)).mono ?_; rintro e w9 hx; rw [HP1.out] at hx; obtain ⟨rfl, hf⟩ := hx; have FW_n := Aside0.mk (FW.out.trans hf); clear FW; have FW := FW_n; clear FW_n; clear hf)
    refine ⟨rfl, ?_⟩
    show AfterR S g w l r A9 c9 A10 c10 (gaveUp 1) _
    unfold AfterR
    rw [show recP r = none by rw [HE.out, HP1.out]; rfl]
    exact ⟨rfl, F_n.out.trans (FS.more (FS.more FW.out))⟩
  | some t1 =>
  have HP1 := Aside0.mk hp1; have HT1 := Aside0.mk (id hp1); clear hp1
  go_upto_region 26 with (go_at_call 72; refine (tables_calls g (l ++ [b8 6]) b r A9 c9 A10 c10 (Less (Less S w.heap.size) w1.heap.size) _ (HS2.out.next FW.out.size) HW.out RP.out (fun e => HSB.out e.1.1) (fun w' hf => H9.out w' (F_n.out.trans (FS.more (FS.more (FW.out.trans hf))))) (fun w' hf => H10.out w' (F_n.out.trans (FS.more (FS.more (FW.out.trans hf))))) (by simp only [List.length_append, List.length_cons, List.length_nil]; have := HL.out;  omega)).mono ?_; rintro e w3 hx; rw [HP1.out] at hx; obtain ⟨rfl, hk, hf⟩ := hx; have HW_n := Aside0.mk (hk); have FW_n := Aside0.mk (FW.out.trans hf); clear HW FW; have HW := HW_n; have FW := FW_n; clear HW_n FW_n; clear hk hf)
  have RX := Aside0.mk (show RB w3.drew b r A9 c9 A10 c10 from FW.out.old R3.out (fun e => HSB.out e.1.1))
  have BO := Aside0.mk (show w3.drew.heap[w1.heap.size]? = some (.cells #[.int .i64 6, .int .i64 0, .int .i64 0, .int .i64 0, .int .i64 0, .int .i64 0, .int .i64 0, .string ⟨#[]⟩, .string ⟨#[]⟩, .slice none 0 0, .slice none 0 0] 39 (0, 0)) from FW.out.old B5.out (not_less _ _))
  have B4d := Aside0.mk (show w3.drew.heap[w.heap.size]? = some (.cells #[.int .i64 0, .int .i64 0, .int .i64 0, .int .i64 0, .int .i64 0, .int .i64 0, .int .i64 0, .string ⟨#[]⟩, .string ⟨#[]⟩, .slice none 0 0, .slice none 0 0] 39 (0, 0)) from FW.out.old B4c.out (fun e => e.1.2 rfl))
  have FA := Aside0.mk (F_n.out.trans (FS.more (FS.more FW.out))).drew
  have HWA := Aside0.mk HW.out.drew
  have FO := Aside0.mk (FS.refl (fun k => k = w1.heap.size) w3.drew)
  clear HW FW
  have z6 : w3.drew.cell? ⟨b, 6, none⟩ = some (.int .i64 r.f6) := blk_cell (w := w3.drew) RX.out.at 6
  have z9 : w3.drew.cell? ⟨b, 9, none⟩ = some (.slice A9 r.f9.length c9) := blk_cell (w := w3.drew) RX.out.at 9
  have z10 : w3.drew.cell? ⟨b, 10, none⟩ = some (.slice A10 r.f10.length c10) := blk_cell (w := w3.drew) RX.out.at 10
  refine start_ (n := 18) (S := fun w' => w'.cell? ⟨b, 6, none⟩ = some (.int .i64 r.f6) ∧ w'.cell? ⟨b, 9, none⟩ = some (.slice A9 r.f9.length c9) ∧ w'.cell? ⟨b, 10, none⟩ = some (.slice A10 r.f10.length c10)) (ds := []) #[false, false, false, false, false, false, false, false, false, false, false, false, false, false, false, false, false, false] (by kernel_rfl) rfl rfl ⟨z6, z9, z10⟩ (fun hHeld => ?_)
  refine rgp 0 188 ?_
  refine rgp 1 189 ?_
  refine rgp 2 190 ?_
  refine rgp 4 192 ?_
  refine rgp 5 193 ?_
  refine rgp 6 194 ?_
  refine rgp 8 196 ?_
  refine rgp 9 197 ?_
  refine rgp 10 198 ?_
  refine rgt 3 191 hHeld ?_
  refine rgp 12 200 ?_
  refine rgt 7 195 hHeld ?_
  refine rgt 11 199 hHeld ?_
  refine one_ (i := 13) (N := none) #[true, true, true, true, true, true, true, true, true, true, true, true, true, true, false, false, false, false] rfl rfl (by kernel_rfl) (by decide) (fun K hK => ?_)
  generalize w3.drew = X0_ at *
  have cz : X0_.cell? ⟨w1.heap.size, 6, none⟩ = some _ := blk_cell BO.out 6
  have fz : X0_.frozen? ⟨w1.heap.size, 6, none⟩ = false := blk_frozen BO.out 6
  refine skip_ (w1 := ?_) (by kernel_rfl) rfl ?_ ?_
  rotate_left
  · go_simp
    rfl
  have BO_n := Aside0.mk (show (X0_.setCell ⟨w1.heap.size, 6, none⟩ (.int .i64 r.f6)).heap[w1.heap.size]? = some (.cells #[.int .i64 6, .int .i64 0, .int .i64 0, .int .i64 0, .int .i64 0, .int .i64 0, .int .i64 r.f6, .string ⟨#[]⟩, .string ⟨#[]⟩, .slice none 0 0, .slice none 0 0] 39 (0, 0)) from set_blk BO.out 6 (.int .i64 r.f6))
  have FO_n := Aside0.mk (FO.out.setCell (p := ⟨w1.heap.size, 6, none⟩) (.inl rfl) (.int .i64 r.f6))
  clear BO FO cz fz
  generalize X0_.setCell ⟨w1.heap.size, 6, none⟩ (.int .i64 r.f6) = v1_ at *
  have BO := BO_n; have FO := FO_n; clear BO_n FO_n
  have RV := FO.out.old RX.out (fun e => HSB5.out (e : b = w1.heap.size))
  refine hK _ _ ⟨blk_cell (w := v1_) RV 6, blk_cell (w := v1_) RV 9, blk_cell (w := v1_) RV 10⟩ (fun hHeld => ?_)
  clear hK K RV
  refine rgp 14 201 ?_
  refine one_ (i := 15) (N := none) #[true, true, true, true, true, true, true, true, true, true, true, true, true, true, true, true, false, false] rfl rfl (by kernel_rfl) (by decide) (fun K hK => ?_)
  have cz : v1_.cell? ⟨w1.heap.size, 9, none⟩ = some _ := blk_cell BO.out 9
  have fz : v1_.frozen? ⟨w1.heap.size, 9, none⟩ = false := blk_frozen BO.out 9
  refine skip_ (w1 := ?_) (by kernel_rfl) rfl ?_ ?_
  rotate_left
  · go_simp
    rfl
  have BO_n := Aside0.mk (show (v1_.setCell ⟨w1.heap.size, 9, none⟩ (.slice A9 r.f9.length c9)).heap[w1.heap.size]? = some (.cells #[.int .i64 6, .int .i64 0, .int .i64 0, .int .i64 0, .int .i64 0, .int .i64 0, .int .i64 r.f6, .string ⟨#[]⟩, .string ⟨#[]⟩, .slice A9 r.f9.length c9, .slice none 0 0] 39 (0, 0)) from set_blk BO.out 9 (.slice A9 r.f9.length c9))
  have FO_n := Aside0.mk (FO.out.setCell (p := ⟨w1.heap.size, 9, none⟩) (.inl rfl) (.slice A9 r.f9.length c9))
  clear BO FO cz fz
  generalize v1_.setCell ⟨w1.heap.size, 9, none⟩ (.slice A9 r.f9.length c9) = v2_ at *
  have BO := BO_n; have FO := FO_n; clear BO_n FO_n
  have RV := FO.out.old RX.out (fun e => HSB5.out (e : b = w1.heap.size))
  refine hK _ _ ⟨blk_cell (w := v2_) RV 6, blk_cell (w := v2_) RV 9, blk_cell (w := v2_) RV 10⟩ (fun hHeld => ?_)
  clear hK K RV
  refine rgp 16 202 ?_
  refine one_ (i := 17) (N := none) #[true, true, true, true, true, true, true, true, true, true, true, true, true, true, true, true, true, true] rfl rfl (by kernel_rfl) (by decide) (fun K hK => ?_)
  have cz : v2_.cell? ⟨w1.heap.size, 10, none⟩ = some _ := blk_cell BO.out 10
  have fz : v2_.frozen? ⟨w1.heap.size, 10, none⟩ = false := blk_frozen BO.out 10
  refine skip_ (w1 := ?_) (by kernel_rfl) rfl ?_ ?_
  rotate_left
  · go_simp
    rfl
  have BO_n := Aside0.mk (show (v2_.setCell ⟨w1.heap.size, 10, none⟩ (.slice A10 r.f10.length c10)).heap[w1.heap.size]? = some (.cells #[.int .i64 6, .int .i64 0, .int .i64 0, .int .i64 0, .int .i64 0, .int .i64 0, .int .i64 r.f6, .string ⟨#[]⟩, .string ⟨#[]⟩, .slice A9 r.f9.length c9, .slice A10 r.f10.length c10] 39 (0, 0)) from set_blk BO.out 10 (.slice A10 r.f10.length c10))
  have FO_n := Aside0.mk (FO.out.setCell (p := ⟨w1.heap.size, 10, none⟩) (.inl rfl) (.slice A10 r.f10.length c10))
  clear BO FO cz fz
  generalize v2_.setCell ⟨w1.heap.size, 10, none⟩ (.slice A10 r.f10.length c10) = v3_ at *
  have BO := BO_n; have FO := FO_n; clear BO_n FO_n
  have RV := FO.out.old RX.out (fun e => HSB5.out (e : b = w1.heap.size))
  refine hK _ _ ⟨blk_cell (w := v3_) RV 6, blk_cell (w := v3_) RV 9, blk_cell (w := v3_) RV 10⟩ (fun hHeld => ?_)
  clear hK K RV
  refine done_ (by kernel_rfl) ?_
  have HWV := Aside0.mk (HWA.out.kept FO.out (fun k hk e => hk.2 e))
  have FV := Aside0.mk (FA.out.trans (FO.out.mono (S2 := S) (fun k _ e => by rw [e]; exact HS5.out)))
  have B4 := Aside0.mk (FO.out.old B4d.out (fun e => HN1.out (e : w.heap.size = w1.heap.size)))
  have y0 := blk_cell (w := v3_) B4.out 0; have x0 := blk_cell (w := v3_) BO.out 0; have f0 := blk_frozen (w := v3_) B4.out 0
  have y1 := blk_cell (w := v3_) B4.out 1; have x1 := blk_cell (w := v3_) BO.out 1; have f1 := blk_frozen (w := v3_) B4.out 1
  have y2 := blk_cell (w := v3_) B4.out 2; have x2 := blk_cell (w := v3_) BO.out 2; have f2 := blk_frozen (w := v3_) B4.out 2
  have y3 := blk_cell (w := v3_) B4.out 3; have x3 := blk_cell (w := v3_) BO.out 3; have f3 := blk_frozen (w := v3_) B4.out 3
  have y4 := blk_cell (w := v3_) B4.out 4; have x4 := blk_cell (w := v3_) BO.out 4; have f4 := blk_frozen (w := v3_) B4.out 4
  have y5 := blk_cell (w := v3_) B4.out 5; have x5 := blk_cell (w := v3_) BO.out 5; have f5 := blk_frozen (w := v3_) B4.out 5
  have y6 := blk_cell (w := v3_) B4.out 6; have x6 := blk_cell (w := v3_) BO.out 6; have f6 := blk_frozen (w := v3_) B4.out 6
  have y7 := blk_cell (w := v3_) B4.out 7; have x7 := blk_cell (w := v3_) BO.out 7; have f7 := blk_frozen (w := v3_) B4.out 7
  have y8 := blk_cell (w := v3_) B4.out 8; have x8 := blk_cell (w := v3_) BO.out 8; have f8 := blk_frozen (w := v3_) B4.out 8
  have y9 := blk_cell (w := v3_) B4.out 9; have x9 := blk_cell (w := v3_) BO.out 9; have f9 := blk_frozen (w := v3_) B4.out 9
  have y10 := blk_cell (w := v3_) B4.out 10; have x10 := blk_cell (w := v3_) BO.out 10; have f10 := blk_frozen (w := v3_) B4.out 10
  clear FA HWA FO B4d BO B4
  simp only [Exit.inBlock, Exit.then]
  go_wp2
  have HS4 := Aside0.mk (show S w.heap.size from HS.out _ (Nat.le_refl _))
  refine bodyPost_ret (v := .agg #[.int .i64 6, .int .i64 0, .int .i64 0, .int .i64 0, .int .i64 0, .int .i64 0, .int .i64 r.f6, .string ⟨#[]⟩, .string ⟨#[]⟩, .slice A9 r.f9.length c9, .slice A10 r.f10.length c10]) (by simp [results, Try.results52, go_sem, y0, y1, y2, y3, y4, y5, y6, y7, y8, y9, y10]) rfl ?_
  show AfterR S g w l r A9 c9 A10 c10 _ _
  unfold AfterR
  rw [show recP r = some ([b8 r.f0] ++ (t1)) by rw [HE.out, HP1.out]; rfl, HO.out, HK_.out]
  refine ⟨⟨A9, c9, A10, c10, rfl, .inl ⟨rfl, rfl, rfl, rfl, rfl⟩⟩, ?_, ?_⟩
  · rw [show l ++ ([b8 6] ++ (t1)) = l ++ [b8 6] ++ t1 by simp only [List.append_assoc, List.append_nil]]
    refine WK.more (b := w.heap.size) (WK.more (b := w1.heap.size) (HWV.out.kept (S2 := fun k => k = w.heap.size) ?_ (fun k hk e => hk.1.2 e)))
    repeat (first | (with_reducible refine FS.set1 ?_ _ _) | (with_reducible exact FS.refl _ _))
  · repeat (first | (with_reducible refine FS.setS ?_ HS4.out _ _) | (with_reducible exact FV.out))
set_option maxHeartbeats 4000000 in
set_option maxRecDepth 100000 in
theorem rec_zero (g : Nat) (l : List UInt8) (b : Nat) (r : S39) (A9 : Option Addr) (c9 : Nat) (A10 : Option Addr) (c10 : Nat) (S : Nat → Prop) (w : World) (hS : Top S w) (h : WK w S g l) (hb : RB w b r A9 c9 A10 c10) (hSb : ¬ S b) (hl : l.length ≤ 800000) (hz : r.f8.size ≤ 1000000) (hk : r.f0 = 0) : Calls Try.prog 52 #[.pointer (some ⟨g, 0, none⟩), .pointer (some ⟨b, 0, none⟩)] w fun x w' => AfterR S g w l r A9 c9 A10 c10 x w' := by
  have HS := Aside0.mk hS; have HW := Aside0.mk h; have HL := Aside0.mk hl; have HZ := Aside0.mk hz; have HB := Aside0.mk hb; have HSB := Aside0.mk hSb; have HK_ := Aside0.mk hk
  clear hS h hl hb hSb hz
  have HSM := Aside0.mk (show smallP r.f0 6 = some [b8 r.f0] by unfold smallP; rw [if_pos (by rw [hk]; omega)])
  have HE := Aside0.mk (show recP r = none by unfold recP bodyP; rw [HSM.out, if_neg (by have := HK_.out; omega), if_neg (by have := HK_.out; omega), if_neg (by have := HK_.out; omega), if_neg (by have := HK_.out; omega), if_neg (by have := HK_.out; omega)]; rfl)
  have HS1 := Aside0.mk (top_less HS.out (.cells #[.int .i64 0, .int .i64 0, .int .i64 0, .int .i64 0, .int .i64 0, .int .i64 0, .int .i64 0, .string ⟨#[]⟩, .string ⟨#[]⟩, .slice none 0 0, .slice none 0 0] 39))
  have HW1 := Aside0.mk (wk_less HW.out (.cells #[.int .i64 0, .int .i64 0, .int .i64 0, .int .i64 0, .int .i64 0, .int .i64 0, .int .i64 0, .string ⟨#[]⟩, .string ⟨#[]⟩, .slice none 0 0, .slice none 0 0] 39))
  have F := Aside0.mk ((FS.refl S w).alloc (.cells #[.int .i64 0, .int .i64 0, .int .i64 0, .int .i64 0, .int .i64 0, .int .i64 0, .int .i64 0, .string ⟨#[]⟩, .string ⟨#[]⟩, .slice none 0 0, .slice none 0 0] 39))
  have B4 := Aside0.mk (heap_alloc_new w (.cells #[.int .i64 0, .int .i64 0, .int .i64 0, .int .i64 0, .int .i64 0, .int .i64 0, .int .i64 0, .string ⟨#[]⟩, .string ⟨#[]⟩, .slice none 0 0, .slice none 0 0] 39))
  have R1 := Aside0.mk (show RB (w.alloc (.cells #[.int .i64 0, .int .i64 0, .int .i64 0, .int .i64 0, .int .i64 0, .int .i64 0, .int .i64 0, .string ⟨#[]⟩, .string ⟨#[]⟩, .slice none 0 0, .slice none 0 0] 39)) b r A9 c9 A10 c10 from F.out.old HB.out HSB.out)
  have q0 : (w.alloc (.cells #[.int .i64 0, .int .i64 0, .int .i64 0, .int .i64 0, .int .i64 0, .int .i64 0, .int .i64 0, .string ⟨#[]⟩, .string ⟨#[]⟩, .slice none 0 0, .slice none 0 0] 39)).cell? ⟨b, 0, none⟩ = some (.int .i64 0) := (blk_cell R1.out 0).trans (by rw [← hk]; rfl)
  go_enter Try.func52, Try.ntmps52
  go_upto_region 1 with (fail)
  generalize w.alloc (.cells #[.int .i64 0, .int .i64 0, .int .i64 0, .int .i64 0, .int .i64 0, .int .i64 0, .int .i64 0, .string ⟨#[]⟩, .string ⟨#[]⟩, .slice none 0 0, .slice none 0 0] 39) = W1 at *
  have F1 := Aside0.mk (FS.refl (Less S w.heap.size) W1)
  clear hk
  go_upto_region 2 with (go_at_call 67; refine (small_calls g l 0 6 (Less S w.heap.size) _ HS1.out HW1.out (by have := HL.out; omega)).mono ?_; rintro e w1 hx; rw [show smallP 0 6 = some [b8 0] from rfl] at hx; obtain ⟨rfl, hk1, hf1⟩ := hx; have HW1_n := Aside0.mk hk1; have F1_n := Aside0.mk (F1.out.trans hf1); clear HW1 F1 hk1 hf1 HW; have HW1 := HW1_n; have F1 := F1_n; clear HW1_n F1_n)
  have R2 := Aside0.mk (show RB w1 b r A9 c9 A10 c10 from F1.out.old R1.out (fun e => HSB.out e.1))
  have B4b := Aside0.mk (F1.out.old B4.out (not_less _ _))
  clear q0 R1 B4
  have q0 : w1.cell? ⟨b, 0, none⟩ = some (.int .i64 0) := (blk_cell R2.out 0).trans (by rw [← HK_.out]; rfl)
  have HS2 := Aside0.mk (top_less (HS1.out.next F1.out.size) (.cells #[.int .i64 0, .int .i64 0, .int .i64 0, .int .i64 0, .int .i64 0, .int .i64 0, .int .i64 0, .string ⟨#[]⟩, .string ⟨#[]⟩, .slice none 0 0, .slice none 0 0] 39))
  have HW2 := Aside0.mk (wk_less HW1.out (.cells #[.int .i64 0, .int .i64 0, .int .i64 0, .int .i64 0, .int .i64 0, .int .i64 0, .int .i64 0, .string ⟨#[]⟩, .string ⟨#[]⟩, .slice none 0 0, .slice none 0 0] 39))
  have B5 := Aside0.mk (heap_alloc_new w1 (.cells #[.int .i64 0, .int .i64 0, .int .i64 0, .int .i64 0, .int .i64 0, .int .i64 0, .int .i64 0, .string ⟨#[]⟩, .string ⟨#[]⟩, .slice none 0 0, .slice none 0 0] 39))
  have F2_n := Aside0.mk ((FS.refl (Less S w.heap.size) w1).alloc (.cells #[.int .i64 0, .int .i64 0, .int .i64 0, .int .i64 0, .int .i64 0, .int .i64 0, .int .i64 0, .string ⟨#[]⟩, .string ⟨#[]⟩, .slice none 0 0, .slice none 0 0] 39))
  have F_n := Aside0.mk (F.out.trans (FS.more (F1.out.trans F2_n.out)))
  have R3 := Aside0.mk (show RB _ b r A9 c9 A10 c10 from F2_n.out.old R2.out (fun e => HSB.out e.1))
  have B4c := Aside0.mk (F2_n.out.old B4b.out (not_less _ _))
  have HN1 := Aside0.mk (Nat.ne_of_lt (blk_lt B4b.out)); have HSZ := Aside0.mk (show w.heap.size ≤ w1.heap.size from Nat.le_of_lt (blk_lt B4b.out))
  clear F F1 F2_n R2 B4b HS1 HW1
  go_upto_region 3 with (fail)
  generalize w1.alloc (.cells #[.int .i64 0, .int .i64 0, .int .i64 0, .int .i64 0, .int .i64 0, .int .i64 0, .int .i64 0, .string ⟨#[]⟩, .string ⟨#[]⟩, .slice none 0 0, .slice none 0 0] 39) = W2 at *
  clear q0
  have q0 : W2.cell? ⟨b, 0, none⟩ = some (.int .i64 0) := (blk_cell R3.out 0).trans (by rw [← HK_.out]; rfl)
  have FW := Aside0.mk (FS.refl (Less (Less S w.heap.size) w1.heap.size) W2)
  have HW := HW2; clear HW2
  go_wp2
  refine ⟨rfl, ?_⟩
  show AfterR S g w l r A9 c9 A10 c10 (gaveUp 1) _
  unfold AfterR
  rw [HE.out]
  exact ⟨rfl, F_n.out⟩
set_option maxHeartbeats 4000000 in
set_option maxRecDepth 100000 in
theorem rec_none (g : Nat) (l : List UInt8) (b : Nat) (r : S39) (A9 : Option Addr) (c9 : Nat) (A10 : Option Addr) (c10 : Nat) (S : Nat → Prop) (w : World) (hS : Top S w) (h : WK w S g l) (hb : RB w b r A9 c9 A10 c10) (hSb : ¬ S b) (hl : l.length ≤ 800000) (hz : r.f8.size ≤ 1000000) (hk : ¬ (0 ≤ r.f0 ∧ r.f0 ≤ 6)) : Calls Try.prog 52 #[.pointer (some ⟨g, 0, none⟩), .pointer (some ⟨b, 0, none⟩)] w fun x w' => AfterR S g w l r A9 c9 A10 c10 x w' := by
  have HS := Aside0.mk hS; have HW := Aside0.mk h; have HL := Aside0.mk hl; have HZ := Aside0.mk hz; have HB := Aside0.mk hb; have HSB := Aside0.mk hSb
  clear hS h hl hb hSb hz
  have HSM := Aside0.mk (show smallP r.f0 6 = none by unfold smallP; rw [if_neg hk])
  have HE := Aside0.mk (show recP r = none by unfold recP; rw [HSM.out]; rfl)
  have HS1 := Aside0.mk (top_less HS.out (.cells #[.int .i64 0, .int .i64 0, .int .i64 0, .int .i64 0, .int .i64 0, .int .i64 0, .int .i64 0, .string ⟨#[]⟩, .string ⟨#[]⟩, .slice none 0 0, .slice none 0 0] 39))
  have HW1 := Aside0.mk (wk_less HW.out (.cells #[.int .i64 0, .int .i64 0, .int .i64 0, .int .i64 0, .int .i64 0, .int .i64 0, .int .i64 0, .string ⟨#[]⟩, .string ⟨#[]⟩, .slice none 0 0, .slice none 0 0] 39))
  have F := Aside0.mk ((FS.refl S w).alloc (.cells #[.int .i64 0, .int .i64 0, .int .i64 0, .int .i64 0, .int .i64 0, .int .i64 0, .int .i64 0, .string ⟨#[]⟩, .string ⟨#[]⟩, .slice none 0 0, .slice none 0 0] 39))
  have R1 := Aside0.mk (show RB (w.alloc (.cells #[.int .i64 0, .int .i64 0, .int .i64 0, .int .i64 0, .int .i64 0, .int .i64 0, .int .i64 0, .string ⟨#[]⟩, .string ⟨#[]⟩, .slice none 0 0, .slice none 0 0] 39)) b r A9 c9 A10 c10 from F.out.old HB.out HSB.out)
  have q0 : (w.alloc (.cells #[.int .i64 0, .int .i64 0, .int .i64 0, .int .i64 0, .int .i64 0, .int .i64 0, .int .i64 0, .string ⟨#[]⟩, .string ⟨#[]⟩, .slice none 0 0, .slice none 0 0] 39)).cell? ⟨b, 0, none⟩ = some (.int .i64 r.f0) := blk_cell R1.out.at 0
  clear hk
  go_enter Try.func52, Try.ntmps52
  go_upto_region 1 with (fail)
  generalize w.alloc (.cells #[.int .i64 0, .int .i64 0, .int .i64 0, .int .i64 0, .int .i64 0, .int .i64 0, .int .i64 0, .string ⟨#[]⟩, .string ⟨#[]⟩, .slice none 0 0, .slice none 0 0] 39) = W1 at *
  go_wp2_with (go_at_call 67; refine (small_calls g l r.f0 6 (Less S w.heap.size) _ HS1.out HW1.out (by have := HL.out; omega)).mono ?_; rintro e w1 hx; rw [HSM.out] at hx; obtain ⟨rfl, hf1⟩ := hx; have F_n := Aside0.mk (F.out.trans (FS.more hf1)); clear hf1)
  refine ⟨rfl, ?_⟩
  show AfterR S g w l r A9 c9 A10 c10 (gaveUp 1) _
  unfold AfterR
  rw [HE.out]
  exact ⟨rfl, F_n.out⟩
end Go.Proofs.Ytcelfhoomhmioaa.Wr
