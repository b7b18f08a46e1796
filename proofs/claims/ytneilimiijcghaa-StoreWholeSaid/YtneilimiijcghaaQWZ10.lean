import Derived.Test.YtneilimiijcghaaQWZ0
import Derived.Test.YtneilimiijcghaaQWZ1
import Derived.Test.YtneilimiijcghaaQWZ2
import Derived.Test.YtneilimiijcghaaQWZ3
import Derived.Test.YtneilimiijcghaaQWZ4
import Derived.Test.YtneilimiijcghaaQWZ5
import Derived.Test.YtneilimiijcghaaQWZ6
import Derived.Test.YtneilimiijcghaaQWZ7
import Derived.Test.YtneilimiijcghaaQWZ8
import Derived.Test.YtneilimiijcghaaQWZ9
namespace Go.Proofs.Ytneilimiijcghaa.St
open Go Go.RowKit Go.ChangeMaps Go.Proofs.Ytneilimiijcghaa.Arr Go.Proofs.Ytneilimiijcghaa.Mp Go.Proofs.Ytneilimiijcghaa.Ow Go.Proofs.Ytneilimiijcghaa.Dk Go.Proofs.YtneilimiijcghaaW.PrintWords Go.Proofs.YtneilimiijcghaaW.PrintLast Go.Proofs.YtneilimiijcghaaW.PrintMore
set_option linter.unusedVariables false
set_option linter.unusedSimpArgs false
theorem loop_bl (s : ByteArray) : ∀ (d i : Nat) (r : List UInt8), i + d = s.size → ByteArray.toList.loop s i r = r.reverse ++ (s.data.toList).drop i := by
  intro d
  induction d with
  | zero =>
    intro i r h
    rw [ByteArray.toList.loop, if_neg (by omega), List.drop_of_length_le (by rw [Array.length_toList]; exact Nat.le_of_eq (by show s.size = i; omega)), List.append_nil]
  | succ d ih =>
    intro i r h
    have hi : i < s.size := by omega
    have hl : i < (s.data.toList).length := by rw [Array.length_toList]; exact hi
    rw [ByteArray.toList.loop, if_pos hi, ih (i + 1) _ (by omega), List.drop_eq_getElem_cons hl, List.reverse_cons, List.append_assoc]
    have e : s.get! i = (s.data.toList)[i] := by
      show s.data[i]! = s.data.toList[i]
      have hd : i < s.data.size := hi
      rw [getElem!_pos s.data i hd]
      exact (Array.getElem_toList hd).symm
    rw [e]
    rfl
theorem toList_bl (s : ByteArray) : s.toList = s.data.toList := by
  show ByteArray.toList.loop s 0 [] = _
  rw [loop_bl s s.size 0 [] (by omega)]
  rfl
theorem toList_eq (a b : ByteArray) : a.toList = b.toList ↔ a = b := by
  constructor
  · intro h
    rw [toList_bl, toList_bl] at h
    cases a; cases b
    simp at h
    rw [h]
  · rintro rfl; rfl
/-- What Read says, by equality of bytes. -/
def readP (d : DS) (base n i : Int) : Int × ByteArray × Int :=
  if i < 0 ∨ n ≤ i then (0, ⟨#[]⟩, 2)
  else if readE d (base + (3 + 2 * i)) ≠ 0 then (0, ⟨#[]⟩, readE d (base + (3 + 2 * i)))
  else if readS d (base + (3 + 2 * i)) = noughts 128 ∧ readS d (base + (3 + 2 * i) + 1) = readS d (base + (3 + 2 * i)) then (0, noughts 220, 0)
  else if (sreadF d (base + (3 + 2 * i)) (2 * i)).2.2.2 = true ∧ (sreadF d (base + (3 + 2 * i + 1)) (2 * i + 1)).2.2.2 = true ∧ (sreadF d (base + (3 + 2 * i)) (2 * i)).1 = (sreadF d (base + (3 + 2 * i + 1)) (2 * i + 1)).1 then
    (if (X12.punF ((sreadF d (base + (3 + 2 * i)) (2 * i)).2.2.1 ++ (sreadF d (base + (3 + 2 * i + 1)) (2 * i + 1)).2.2.1)).2.2 = 0 then X12.punF ((sreadF d (base + (3 + 2 * i)) (2 * i)).2.2.1 ++ (sreadF d (base + (3 + 2 * i + 1)) (2 * i + 1)).2.2.1) else (0, ⟨#[]⟩, 8))
  else (0, ⟨#[]⟩, 8)
theorem readP_eq (d : DS) (base n i : Int) : storeR d base n i = readP d base n i := by
  unfold storeR readP
  simp only [toList_eq]
def awA : DS := { newD 7 with fuse := max 5 (-1) }
def awW : DS := (storeW 0 2 1 1 9 (noughts 220) awA).2.2
theorem aw_w : (storeW 0 2 1 1 9 (noughts 220) awA).1 = 4 ∧ (storeW 0 2 1 1 9 (noughts 220) awA).2.1 = 2 := by decide +kernel
def awC : DS := crashD 0 (fun _ => 0) awW
theorem aw_l : latestF awC 0 (secN 2) = 1 := by decide +kernel
theorem aw_g : awC.gone = false := rfl
theorem aw_r : (repairS 0 2 awC).1 = 0 := by decide +kernel
def awO : DS := (repairS 0 2 awC).2
theorem aw_1 : storeR awO 0 2 1 = (9, noughts 220, 0) := by rw [readP_eq]; decide +kernel
theorem aw_0 : storeR awO 0 2 0 = (0, noughts 220, 0) := by rw [readP_eq]; decide +kernel
theorem aw_n : newOk (newD 7) 0 2 := by unfold newOk; decide +kernel
theorem aw_nc : newOk awC 0 2 := by unfold newOk; decide +kernel
end Go.Proofs.Ytneilimiijcghaa.St
namespace Go.Proofs.Ytneilimiijcghaa.St
open Go.Proofs.Ytneilimiijcghaa.Rgn
open Go Go.RowKit Go.ChangeMaps Go.Proofs.Ytneilimiijcghaa.Arr Go.Proofs.Ytneilimiijcghaa.Mp Go.Proofs.Ytneilimiijcghaa.Ow Go.Proofs.Ytneilimiijcghaa.Dk Go.Proofs.YtneilimiijcghaaW.PrintWords Go.Proofs.YtneilimiijcghaaW.PrintLast Go.Proofs.YtneilimiijcghaaW.PrintMore
set_option linter.unusedVariables false
set_option linter.unusedSimpArgs false
theorem str_noughts : strOfNums (List.replicate 220 0) = noughts 220 := by decide +kernel
theorem refempty_calls (w : World) : Calls Try.prog 11 #[] w fun e w' => e = .returned (.agg #[.int .i64 0, .string (noughts 220)]) ∧ Below w.heap.size w w' :=
  X12.careenref06_Empty.calls 0 (noughts 220) w (by unfold X12.careenref06_Empty.f; rw [if_pos (by decide), str_noughts])
theorem new7 (w : World) : Calls Try.prog 7 #[.int .i64 7] w fun e w' => ∃ g, w.heap.size ≤ g ∧ e = .returned (.tuple #[.pointer (some ⟨g, 0, none⟩), .int .i64 0]) ∧ DK w' (fun k => w.heap.size ≤ k) g (newD 7) ∧ Below w.heap.size w w' := new_calls 7 (by decide) (by decide) w
theorem fld1 (a b : Value) (w : World) : (Instr.field 34 (.agg #[a, b]) 1).run Try.prog w = .ok b w := by kernel_rfl
theorem eqA34 (d : Nat) (w : World) (x0 y0 : Int) (x1 y1 : ByteArray) : (Op.equalIn (d + 2) 34 (.agg #[.int .i64 x0, .string x1]) (.agg #[.int .i64 y0, .string y1])).run Try.prog w = .ok (x0 == y0 && (x1.toList == y1.toList)) w := by
  refine eqA_of Try.underlying34 (by kernel_rfl) ?_
  refine eqf_cons (by rfl) (by go_simp; rfl) (by go_simp; rfl) (by go_simp) ?_
  exact eqf_last (by rfl) (by go_simp; rfl) (by go_simp; rfl) (by go_simp)
attribute [local go_sem] fld1
attribute [local go_sem high] eqA34
theorem aw_oka : OkN 0 awA := ok_arm (ok_new 7 (by decide)) 5 (by decide)
theorem aw_okw : OkD awW := by unfold OkD; decide +kernel
theorem aw_okc : OkN 0 awC := ok_crash (n := 1000) ⟨aw_okw, by decide +kernel⟩
theorem aw_oko : OkN 1000 awO := ⟨by unfold OkD; decide +kernel, by decide +kernel⟩
set_option maxHeartbeats 8000000 in
set_option maxRecDepth 8192 in
theorem awake_calls (w : World) : Calls Try.prog 9 #[] w fun e w' => e = .returned (.bool true) ∧ Below w.heap.size w w' := by
  go_enter Try.func9, Try.ntmps9
  go_upto_region 2 with (go_at_call 7; (with_reducible refine (new7 _).mono ?_); rintro e w1 ⟨g, hg, rfl, hk, hb⟩; have HD1 := Aside0.mk hk; have HB1 := Aside0.mk hb; have HG := Aside0.mk hg; clear hk hb hg)
  have HT1 := Aside0.mk (show Top (fun k => w.heap.size ≤ k) w1 from fun k hk => Nat.le_trans HB1.out.size hk)
  go_upto_region 3 with (go_at_call 8; (with_reducible refine (snew_calls (newD 7) g 0 2 (fun k => w.heap.size ≤ k) _ HD1.out (ok_new 7 (by decide)) (by decide) aw_n).mono ?_); rintro e w2 ⟨gs, rfl, hgs, hk, hb⟩; have HK2 := Aside0.mk hk; have HB2 := Aside0.mk (Arr.below_trans HB1.out hb); have HGS := Aside0.mk hgs; have HT2 := Aside0.mk (HT1.out.next hb.size); clear hk hb hgs)
  go_upto_region 4 with (go_at_call 11; (with_reducible refine (refempty_calls _).mono ?_); rintro e w3 ⟨rfl, hb⟩; have HK3 := Aside0.mk (HK2.out.below hb); have HB3 := Aside0.mk (Arr.below_trans HB2.out hb); have HT3 := Aside0.mk (HT2.out.next hb.size); clear hb)
  have HP := Aside0.mk (heap_alloc_new w3 (.cells #[.int .i64 9, .string (noughts 220)] TP))
  have hba := (Below.refl w3.heap.size w3).alloc (Nat.le_refl _) (.cells #[.int .i64 9, .string (noughts 220)] TP)
  have HGB := Aside0.mk (show gs ≠ w3.heap.size by have := HK3.out.lt; omega)
  have HBW := Aside0.mk (show w.heap.size ≤ w3.heap.size from HB3.out.size)
  have HGW := Aside0.mk (show w.heap.size ≤ gs by have := HGS.out; have := HB1.out.size; omega)
  obtain ⟨S3, hS3⟩ : ∃ S3 : Nat → Prop, S3 = fun k => (w.heap.size ≤ k ∧ k ≠ gs) ∧ k ≠ w3.heap.size := ⟨_, rfl⟩
  have HIN := Aside0.mk (show ∀ k, S3 k → w.heap.size ≤ k from fun k e => by rw [hS3] at e; exact e.1.1)
  have HXB := Aside0.mk (show ¬ S3 w3.heap.size from fun e => by rw [hS3] at e; exact e.2 rfl)
  have HK4 := Aside0.mk ((HK3.out.less (S1 := S3) (fun k hk e => by rw [hS3]; exact ⟨e, by omega⟩) (fun k e => by rw [hS3] at e; exact e.1)).below hba)
  have HB4 := Aside0.mk (Arr.below_trans HB3.out hba)
  have HT4 := Aside0.mk (show Top S3 (w3.alloc (.cells #[.int .i64 9, .string (noughts 220)] TP)) from fun k hk => by
    simp at hk
    rw [hS3]
    have := HK3.out.lt
    have := HBW.out
    exact ⟨⟨by omega, by omega⟩, by omega⟩)
  clear hba hS3 HK3 HB3 HT3 HK2 HB2 HT2 HB1 HT1 HD1 HGS
  generalize w3.alloc (.cells #[.int .i64 9, .string (noughts 220)] TP) = W4 at *
  generalize w3.heap.size = bp at *
  go_upto_region 5 with (go_at_call 14; (with_reducible refine (arm_calls (newD 7) g 5 S3 _ HK4.out.dk).mono ?_); rintro e w5 ⟨rfl, hk, hf⟩; have HK5 := Aside0.mk (show SK w5 S3 gs g 0 2 1 awA from HK4.out.step hf hk); have HB5 := Aside0.mk (hf.to_below HB4.out HIN.out); have HP5 := Aside0.mk (hf.old HP.out HXB.out); have HT5 := Aside0.mk (HT4.out.next hf.size); clear hk hf)
  clear HK4 HB4 HT4 HP
  have p0 : w5.cell? ⟨bp, 0, none⟩ = some (.int .i64 9) := blk_cell HP5.out 0
  have p1 : w5.cell? ⟨bp, 1, none⟩ = some (.string (noughts 220)) := blk_cell HP5.out 1
  go_upto_region 6 with (go_at_call 13; (with_reducible refine (swrite_calls awA g gs 0 2 1 1 9 (noughts 220) S3 _ HT5.out HK5.out aw_oka (by decide) (by decide) (by decide)).mono ?_); rintro e w6 ⟨rfl, hk, hf⟩; rw [aw_w.1]; rw [aw_w.2] at hk; have HK6 := Aside0.mk (show SK w6 S3 gs g 0 2 2 awW from hk); have HB6 := Aside0.mk (hf.to_below HB5.out (fun k e => e.elim (HIN.out k) (fun e2 => e2 ▸ HGW.out))); have HP6 := Aside0.mk (hf.old HP5.out (fun e => e.elim HXB.out (fun e2 => HGB.out e2.symm))); have HT6 := Aside0.mk (HT5.out.next hf.size); clear hk hf p0 p1)
  clear HK5 HB5 HP5 HT5
  go_upto_region 7 with (go_at_call 15; (with_reducible refine (crash_calls awW g none 0 0 (fun _ => 0) S3 _ HT6.out HK6.out.dk aw_okw (pk_nil _ _ _ _) (fun _ => by decide)).mono ?_); rintro e w7 ⟨rfl, hk, hf⟩; have HD7 := Aside0.mk (show DK w7 S3 g awC from hk); have HB7 := Aside0.mk (hf.to_below HB6.out HIN.out); have HP7 := Aside0.mk (hf.old HP6.out HXB.out); have HT7 := Aside0.mk (HT6.out.next hf.size); clear hk hf)
  clear HK6 HB6 HP6 HT6
  go_upto_region 8 with (go_at_call 16; (with_reducible refine (sopen_calls awC g 0 2 S3 _ HT7.out HD7.out aw_okc (by decide) (by decide) aw_nc aw_g (by rw [aw_l]; decide)).mono ?_); rintro e w8 ⟨g2, hg2, rfl, hk, hf⟩; rw [aw_r, show openV 0 g2 = .pointer (some ⟨g2, 0, none⟩) from rfl]; rw [aw_l] at hk; have HK8 := Aside0.mk (show SK w8 (fun k => S3 k ∧ k ≠ g2) g2 g 0 2 2 awO from hk); have HB8 := Aside0.mk (hf.to_below HB7.out HIN.out); have HP8 := Aside0.mk (hf.old HP7.out HXB.out); clear hk hf hg2)
  clear HD7 HB7 HP7 HT7
  go_upto_region 9 with (go_at_call 17; (with_reducible refine (sRead_calls awO g g2 0 2 2 1 _ _ HK8.out aw_oko (by decide)).mono ?_); rintro e w9 ⟨rfl, hb⟩; rw [aw_1]; have HK9 := Aside0.mk (HK8.out.below hb); have HB9 := Aside0.mk (Arr.below_trans HB8.out hb); have HP9 := Aside0.mk ((hb.block _ (blk_lt HP8.out)).trans HP8.out); clear hb)
  have HQ := Aside0.mk (heap_alloc_new w9 (.cells #[.int .i64 9, .string (noughts 220)] TP))
  have hba := (Below.refl w9.heap.size w9).alloc (Nat.le_refl _) (.cells #[.int .i64 9, .string (noughts 220)] TP)
  have HK10 := Aside0.mk (HK9.out.below hba); have HB10 := Aside0.mk (Arr.below_trans HB9.out hba); have HP10 := Aside0.mk ((hba.block _ (blk_lt HP9.out)).trans HP9.out)
  clear hba HK9 HB9 HP9 HK8 HB8 HP8
  generalize w9.alloc (.cells #[.int .i64 9, .string (noughts 220)] TP) = W10 at *
  generalize w9.heap.size = bq at *
  go_upto_region 10 with (go_at_call 17; (with_reducible refine (sRead_calls awO g g2 0 2 2 0 _ _ HK10.out aw_oko (by decide)).mono ?_); rintro e w11 ⟨rfl, hb⟩; rw [aw_0]; have HK11 := Aside0.mk (HK10.out.below hb); have HB11 := Aside0.mk (Arr.below_trans HB10.out hb); have HP11 := Aside0.mk ((hb.block _ (blk_lt HP10.out)).trans HP10.out); have HQ11 := Aside0.mk ((hb.block _ (blk_lt HQ.out)).trans HQ.out); clear hb)
  have HV := Aside0.mk (heap_alloc_new w11 (.cells #[.int .i64 0, .string (noughts 220)] TP))
  have hba := (Below.refl w11.heap.size w11).alloc (Nat.le_refl _) (.cells #[.int .i64 0, .string (noughts 220)] TP)
  have HK12 := Aside0.mk (HK11.out.below hba); have HB12 := Aside0.mk (Arr.below_trans HB11.out hba); have HP12 := Aside0.mk ((hba.block _ (blk_lt HP11.out)).trans HP11.out); have HQ12 := Aside0.mk ((hba.block _ (blk_lt HQ11.out)).trans HQ11.out)
  clear hba HK11 HB11 HP11 HQ11 HK10 HB10 HP10 HQ
  generalize w11.alloc (.cells #[.int .i64 0, .string (noughts 220)] TP) = W12 at *
  generalize w11.heap.size = bv at *
  have HK13 := Aside0.mk HK12.out.drew; have HB13 := Aside0.mk HB12.out.drew
  have HP13 := Aside0.mk (show W12.drew.heap[bp]? = some (.cells #[.int .i64 9, .string (noughts 220)] TP (0, 0)) from HP12.out); have HQ13 := Aside0.mk (show W12.drew.heap[bq]? = some (.cells #[.int .i64 9, .string (noughts 220)] TP (0, 0)) from HQ12.out); have HV13 := Aside0.mk (show W12.drew.heap[bv]? = some (.cells #[.int .i64 0, .string (noughts 220)] TP (0, 0)) from HV.out)
  clear HK12 HB12 HP12 HQ12 HV
  refine start_ (n := 38) (S := fun w' => w'.cell? ⟨bp, 0, none⟩ = some (.int .i64 9) ∧ w'.cell? ⟨bp, 1, none⟩ = some (.string (noughts 220)) ∧ w'.cell? ⟨bq, 0, none⟩ = some (.int .i64 9) ∧ w'.cell? ⟨bq, 1, none⟩ = some (.string (noughts 220)) ∧ w'.cell? ⟨bv, 0, none⟩ = some (.int .i64 0) ∧ w'.cell? ⟨bv, 1, none⟩ = some (.string (noughts 220))) (ds := []) #[false, false, false, false, false, false, false, false, false, false, false, false, false, false, false, false, false, false, false, false, false, false, false, false, false, false, false, false, false, false, false, false, false, false, false, false, false, false] (by kernel_rfl) rfl rfl ⟨blk_cell HP13.out 0, blk_cell HP13.out 1, blk_cell HQ13.out 0, blk_cell HQ13.out 1, blk_cell HV13.out 0, blk_cell HV13.out 1⟩ (fun hHeld => ?_)
  refine one_ (i := 0) (N := some 47) #[true, false, false, false, false, false, false, false, false, false, false, false, false, false, false, false, false, false, false, false, false, false, false, false, false, false, false, false, false, false, false, false, false, false, false, false, false, false] rfl rfl (by kernel_rfl) (by decide) (fun K hK => ?_)
  refine goes_ Try.func18 (by kernel_rfl) rfl #[.int .i64 2] (by rfl) rfl rfl (by (try simp only [List.map_toArray, List.map_cons, List.map_nil]); first | done | rfl) ?_
  refine (sectors_calls 2 (by decide) _).mono ?_
  rintro e v1_ ⟨rfl, hb⟩
  rw [show (secN 2 : Int) = 7 from rfl]
  refine ⟨_, rfl, ?_⟩
  have HK14 := Aside0.mk (HK13.out.below hb); have HB14 := Aside0.mk (Arr.below_trans HB13.out hb); have HP14 := Aside0.mk ((hb.block _ (blk_lt HP13.out)).trans HP13.out); have HQ14 := Aside0.mk ((hb.block _ (blk_lt HQ13.out)).trans HQ13.out); have HV14 := Aside0.mk ((hb.block _ (blk_lt HV13.out)).trans HV13.out)
  clear hb
  refine hK _ _ ⟨blk_cell (w := v1_) HP14.out 0, blk_cell (w := v1_) HP14.out 1, blk_cell (w := v1_) HQ14.out 0, blk_cell (w := v1_) HQ14.out 1, blk_cell (w := v1_) HV14.out 0, blk_cell (w := v1_) HV14.out 1⟩ (fun hHeld => ?_)
  clear hK K
  refine norm_ (a' := ?_) ?_ ?_
  rotate_left
  · show Act.put _ (some 47) _ = _
    simp only [Act.put, List.setIfInBounds_toArray, List.set_cons_zero, List.set_cons_succ, i64_w, i32_w]
    rfl
  refine rgp 1 48 ?_
  refine rgp 2 49 ?_
  refine rgp 3 50 ?_
  refine rgp 4 51 ?_
  refine rgp 5 52 ?_
  refine rgp 6 53 ?_
  refine rgp 7 54 ?_
  refine rgp 8 55 ?_
  refine rgp 9 56 ?_
  refine rgp 10 57 ?_
  refine rgp 11 58 ?_
  refine rgp 12 59 ?_
  refine rgp 13 60 ?_
  refine rgp 14 61 ?_
  refine rgt 15 62 hHeld ?_
  refine rgt 16 63 hHeld ?_
  refine rgp 17 64 ?_
  refine rgp 18 65 ?_
  refine rgp 19 66 ?_
  refine rgp 20 67 ?_
  refine rgp 21 68 ?_
  refine rgp 22 69 ?_
  refine rgp 23 70 ?_
  refine rgt 24 71 hHeld ?_
  refine one_ (i := 25) (N := some 72) #[true, true, true, true, true, true, true, true, true, true, true, true, true, true, true, true, true, true, true, true, true, true, true, true, true, true, false, false, false, false, false, false, false, false, false, false, false, false] rfl rfl (by kernel_rfl) (by decide) (fun K hK => ?_)
  refine goes_ Try.func11 (by kernel_rfl) rfl #[] (by rfl) rfl rfl (by (try simp only [List.map_toArray, List.map_cons, List.map_nil]); first | done | rfl) ?_
  refine (refempty_calls _).mono ?_
  rintro e v2_ ⟨rfl, hb⟩
  skip
  refine ⟨_, rfl, ?_⟩
  have HK15 := Aside0.mk (HK14.out.below hb); have HB15 := Aside0.mk (Arr.below_trans HB14.out hb); have HP15 := Aside0.mk ((hb.block _ (blk_lt HP14.out)).trans HP14.out); have HQ15 := Aside0.mk ((hb.block _ (blk_lt HQ14.out)).trans HQ14.out); have HV15 := Aside0.mk ((hb.block _ (blk_lt HV14.out)).trans HV14.out)
  clear hb
  refine hK _ _ ⟨blk_cell (w := v2_) HP15.out 0, blk_cell (w := v2_) HP15.out 1, blk_cell (w := v2_) HQ15.out 0, blk_cell (w := v2_) HQ15.out 1, blk_cell (w := v2_) HV15.out 0, blk_cell (w := v2_) HV15.out 1⟩ (fun hHeld => ?_)
  clear hK K
  refine norm_ (a' := ?_) ?_ ?_
  rotate_left
  · show Act.put _ (some 72) _ = _
    simp only [Act.put, List.setIfInBounds_toArray, List.set_cons_zero, List.set_cons_succ, i64_w, i32_w]
    rfl
  refine rgp 26 73 ?_
  refine rgp 27 74 ?_
  refine rgp 28 75 ?_
  refine rgp 29 76 ?_
  refine rgp 30 77 ?_
  refine rgp 31 78 ?_
  refine rgp 32 79 ?_
  refine rgp 33 80 ?_
  refine one_ (i := 34) (N := some 81) #[true, true, true, true, true, true, true, true, true, true, true, true, true, true, true, true, true, true, true, true, true, true, true, true, true, true, true, true, true, true, true, true, true, true, true, false, false, false] rfl rfl (by kernel_rfl) (by decide) (fun K hK => ?_)
  refine goes_ Try.func19 (by kernel_rfl) rfl #[.pointer (some ⟨g2, 0, none⟩)] (by rfl) rfl rfl (by (try simp only [List.map_toArray, List.map_cons, List.map_nil]); first | done | rfl) ?_
  refine (ticket_calls awO g g2 0 2 2 _ _ HK15.out (by decide)).mono ?_
  rintro e v3_ ⟨rfl, hb⟩
  skip
  refine ⟨_, rfl, ?_⟩
  have HK16 := Aside0.mk (HK15.out.below hb); have HB16 := Aside0.mk (Arr.below_trans HB15.out hb); have HP16 := Aside0.mk ((hb.block _ (blk_lt HP15.out)).trans HP15.out); have HQ16 := Aside0.mk ((hb.block _ (blk_lt HQ15.out)).trans HQ15.out); have HV16 := Aside0.mk ((hb.block _ (blk_lt HV15.out)).trans HV15.out)
  clear hb
  refine hK _ _ ⟨blk_cell (w := v3_) HP16.out 0, blk_cell (w := v3_) HP16.out 1, blk_cell (w := v3_) HQ16.out 0, blk_cell (w := v3_) HQ16.out 1, blk_cell (w := v3_) HV16.out 0, blk_cell (w := v3_) HV16.out 1⟩ (fun hHeld => ?_)
  clear hK K
  refine norm_ (a' := ?_) ?_ ?_
  rotate_left
  · show Act.put _ (some 81) _ = _
    simp only [Act.put, List.setIfInBounds_toArray, List.set_cons_zero, List.set_cons_succ, i64_w, i32_w]
    rfl
  refine rgp 35 82 ?_
  refine rgp 36 83 ?_
  refine rgp 37 0 ?_
  refine done_ (by kernel_rfl) ?_
  go_wp2
  go_ret
  exact ⟨rfl, HB16.out⟩
end Go.Proofs.Ytneilimiijcghaa.St
namespace Go.Proofs.Ytneilimiijcghaa.St
open Go Go.RowKit Go.ChangeMaps Go.Proofs.YtneilimiijcghaaW.PrintWords Go.Proofs.Ytneilimiijcghaa.Arr Go.Proofs.Ytneilimiijcghaa.Mp Go.Proofs.Ytneilimiijcghaa.Ow Go.Proofs.Ytneilimiijcghaa.Dk Go.Proofs.Ytneilimiijcghaa.Cr
set_option linter.unusedVariables false
set_option linter.unusedSimpArgs false
def valid (s : ByteArray) : Prop := (X12.unpackF s).2.2.2 = 0
abbrev ep (s : ByteArray) : Int := (X12.unpackF s).1
abbrev ix (s : ByteArray) : Int := (X12.unpackF s).2.1
abbrev bd (s : ByteArray) : ByteArray := (X12.unpackF s).2.2.1
theorem not_nought : ¬ valid (noughts 128) := by unfold valid; decide +kernel
theorem u_sec (t i : Int) (b : ByteArray) (ht : 0 ≤ t ∧ t < 4294967296) (hi : 0 ≤ i ∧ i < 4294967296) (hb : b.size ≤ 112) : X12.unpackF (secS t i b) = (t, i, b, 0) := X12.unpack_pack t i b ht hi hb
theorem sec_valid {t i : Int} {b : ByteArray} (ht : 0 ≤ t ∧ t < 4294967296) (hi : 0 ≤ i ∧ i < 4294967296) (hb : b.size ≤ 112) : valid (secS t i b) := by unfold valid; rw [u_sec t i b ht hi hb]
theorem sec_nz {t i : Int} {b : ByteArray} (ht : 0 ≤ t ∧ t < 4294967296) (hi : 0 ≤ i ∧ i < 4294967296) (hb : b.size ≤ 112) : secS t i b ≠ noughts 128 := fun e => not_nought (e ▸ sec_valid ht hi hb)
theorem ep_sec {t i : Int} {b : ByteArray} (ht : 0 ≤ t ∧ t < 4294967296) (hi : 0 ≤ i ∧ i < 4294967296) (hb : b.size ≤ 112) : ep (secS t i b) = t := by unfold ep; rw [u_sec t i b ht hi hb]
open Classical in
/-- What the journal's head says. -/
noncomputable def hd (n : Int) (h : ByteArray) : Option (Int × Int) := if valid h ∧ ix h = 2 ∧ (bd h).size = 1 ∧ bt (bd h) 0 < n then some (ep h, bt (bd h) 0) else none
open Classical in
/-- What a copy says. -/
noncomputable def part (e k : Int) (c : ByteArray) : Option ByteArray := if valid c ∧ ix c = k ∧ ep c = e ∧ (bd c).size = 112 then some (bd c) else none
/-- What the journal says: ticket, page, bytes. -/
noncomputable def jour (n : Int) (c0 c1 h : ByteArray) : Option (Int × Int × ByteArray) :=
  match hd n h with
  | none => none
  | some x => match part x.1 0 c0 with
    | none => none
    | some a => match part x.1 1 c1 with
      | none => none
      | some b => some (x.1, x.2, a ++ b)
theorem jour_some {n : Int} {c0 c1 h : ByteArray} {e i : Int} {b : ByteArray} (hj : jour n c0 c1 h = some (e, i, b)) : valid h ∧ ep h = e ∧ (0 ≤ i ∧ i < n) ∧ valid c0 ∧ ep c0 = e ∧ valid c1 ∧ ep c1 = e ∧ b = bd c0 ++ bd c1 ∧ b.size = 224 ∧ i = bt (bd h) 0 := by
  unfold jour at hj
  split at hj
  · cases hj
  · rename_i x hx
    split at hj
    · cases hj
    · rename_i a ha
      split at hj
      · cases hj
      · rename_i c hc
        unfold hd at hx
        split at hx
        · rename_i h1
          injection hx with hx; subst hx
          unfold part at ha hc
          split at ha
          · rename_i h2
            split at hc
            · rename_i h3
              injection ha with ha; injection hc with hc
              injection hj with hj; injection hj with j1 j2; injection j2 with j2 j3
              refine ⟨h1.1, j1, ⟨?_, ?_⟩, h2.1, ?_, h3.1, ?_, ?_, ?_, j2.symm⟩
              · rw [← j2]; exact (bt_range _ _).1
              · rw [← j2]; exact h1.2.2.2
              · rw [h2.2.2.1]; exact j1
              · rw [h3.2.2.1]; exact j1
              · rw [← j3, ← ha, ← hc]
              · rw [← j3, ByteArray.size_append, ← ha, ← hc, h2.2.2.2, h3.2.2.2]
            · cases hc
          · cases ha
        · cases hx
/-- The bytes of a page. -/
def Packed (b : ByteArray) (p : Int × ByteArray) : Prop := Page.packF p.1 p.2 = (b, 0)
theorem Packed.size {b : ByteArray} {p : Int × ByteArray} (h : Packed b p) : b.size = 224 := by
  have := pack_sz (a := p.1) (dta := p.2) (by rw [h])
  rw [h] at this
  exact this
abbrev noPage : Int × ByteArray := (0, noughts 220)
/-- A page's homes say it. -/
def PageOk (s0 s1 : ByteArray) (k : Int) (p : Int × ByteArray) : Prop :=
  (s0 = noughts 128 ∧ s1 = noughts 128 ∧ p = noPage) ∨ ∃ e b, (0 ≤ e ∧ e < 4294967296) ∧ Packed b p ∧ s0 = secS e (2 * k) (b.extract 0 112) ∧ s1 = secS e (2 * k + 1) (b.extract 112 224)
abbrev hm (base i : Int) : Int := base + (3 + 2 * i)
/-- The journal of a store's sectors. -/
noncomputable abbrev J (C : Int → ByteArray) (base n : Int) := jour n (C base) (C (base + 1)) (C (base + 2))
structure Inv (C : Int → ByteArray) (base n T : Int) (want : Int → Int × ByteArray) : Prop where
  fine : ∀ q, base ≤ q → q < base + (3 + 2 * n) → valid (C q) → ep (C q) < T
  j : ∀ e i b, J C base n = some (e, i, b) → Packed b (want i)
  page : ∀ k, 0 ≤ k → k < n → (∀ e b, J C base n ≠ some (e, k, b)) → PageOk (C (hm base k)) (C (hm base k + 1)) k (want k)
structure Good (C : Int → ByteArray) (base n T : Int) (want : Int → Int × ByteArray) : Prop where
  inv : Inv C base n T want
  all : ∀ k, 0 ≤ k → k < n → PageOk (C (hm base k)) (C (hm base k + 1)) k (want k)
theorem good_of {C : Int → ByteArray} {base n T : Int} {want : Int → Int × ByteArray} (h : Inv C base n T want) (hj : J C base n = none) : Good C base n T want := ⟨h, fun k h0 h1 => h.page k h0 h1 (fun e b => by rw [hj]; exact fun h => by cases h)⟩
/-- Of the writes each is done, not done, or has left noughts. -/
def Mix (lo hi : Int) (C : Int → ByteArray) (W : WL) (D : Int → ByteArray) : Prop := ∀ q, lo ≤ q → q < hi → D q = C q ∨ (∃ s, (q, s) ∈ W ∧ D q = s) ∨ ((∃ s, (q, s) ∈ W) ∧ D q = noughts 128)
theorem out_mix {S T : List ByteArray} {W : WL} (h : Out S W T) {lo hi : Int} (h0 : 0 ≤ lo) (h1 : hi ≤ S.length) : Mix lo hi (cut S) W (cut T) := fun q a b => h.2 q (by omega) (by omega)
theorem Mix.off {lo hi : Int} {C D : Int → ByteArray} {W : WL} (h : Mix lo hi C W D) {q : Int} (a : lo ≤ q) (b : q < hi) (hn : ∀ s, (q, s) ∉ W) : D q = C q := by
  rcases h q a b with e | ⟨s, m, _⟩ | ⟨⟨s, m⟩, _⟩
  · exact e
  · exact absurd m (hn s)
  · exact absurd m (hn s)
/-- A place at which s was written. -/
theorem Mix.at {lo hi : Int} {C D : Int → ByteArray} {W : WL} (h : Mix lo hi C W D) {q : Int} (a : lo ≤ q) (b : q < hi) {x : ByteArray} (hn : ∀ s, (q, s) ∈ W → s = x) : D q = C q ∨ D q = x ∨ D q = noughts 128 := by
  rcases h q a b with e | ⟨s, m, e⟩ | ⟨⟨s, m⟩, e⟩
  · exact .inl e
  · exact .inr (.inl (e.trans (hn s m)))
  · exact .inr (.inr e)
abbrev two (p : Int) (s0 s1 : ByteArray) : WL := [(p, s0), (p + 1, s1)]
theorem mem_two {p q : Int} {s s0 s1 : ByteArray} : (q, s) ∈ two p s0 s1 ↔ (q = p ∧ s = s0) ∨ (q = p + 1 ∧ s = s1) := by simp [two]
theorem mem_sing {p q : Int} {s s0 : ByteArray} : (q, s) ∈ [(p, s0)] ↔ q = p ∧ s = s0 := by simp
/-- Homes that are written, in part: the journal has them still. -/
theorem inv_homes {C D : Int → ByteArray} {base n T : Int} {want : Int → Int × ByteArray} (h : Inv C base n T want) {e i : Int} {b : ByteArray} (hj : J C base n = some (e, i, b)) (hT : T ≤ 4294967296)
    (hn : 0 ≤ n ∧ n ≤ 8) (hm' : Mix base (base + (3 + 2 * n)) C (two (hm base i) (secS e (2 * i) (b.extract 0 112)) (secS e (2 * i + 1) (b.extract 112 224))) D) : Inv D base n T want := by
  obtain ⟨vh, he, hi, v0, e0, v1, e1, hb, hb2, _⟩ := jour_some hj
  have eb := (unpack_lt (C (base + 2))).1
  have heT : ep (C (base + 2)) < T := h.fine (base + 2) (by omega) (by omega) vh
  have hJ : J D base n = J C base n := by
    have o : ∀ q, base ≤ q → q < base + 3 → D q = C q := fun q a c => hm'.off a (by omega) (fun s m => by rcases mem_two.1 m with m | m <;> (have := m.1; unfold hm at this; omega))
    show jour n (D base) (D (base + 1)) (D (base + 2)) = jour n (C base) (C (base + 1)) (C (base + 2))
    rw [o base (by omega) (by omega), o (base + 1) (by omega) (by omega), o (base + 2) (by omega) (by omega)]
  have he2 : 0 ≤ e ∧ e < 4294967296 := by rw [← he]; exact eb
  have s1 : (b.extract 0 112).size ≤ 112 := by rw [ByteArray.size_extract]; omega
  have s2 : (b.extract 112 224).size ≤ 112 := by rw [ByteArray.size_extract]; omega
  refine ⟨fun q a c hv => ?_, fun e' i' b' hj' => h.j e' i' b' (hJ ▸ hj'), fun k k0 k1 hk => ?_⟩
  · rcases hm' q a c with x | ⟨s, m, x⟩ | ⟨_, x⟩
    · rw [x] at hv ⊢; exact h.fine q a c hv
    · rw [x]
      rcases mem_two.1 m with ⟨_, y⟩ | ⟨_, y⟩
      · rw [y, ep_sec he2 (by omega) s1]; omega
      · rw [y, ep_sec he2 (by omega) s2]; omega
    · rw [x] at hv; exact absurd hv not_nought
  · rw [hJ] at hk
    have hki : k ≠ i := fun x => by subst x; exact hk e b hj
    have o : ∀ q, q = hm base k ∨ q = hm base k + 1 → D q = C q := fun q a => hm'.off (by unfold hm at a; omega) (by unfold hm at a; omega) (fun s m => by unfold hm at a; rcases mem_two.1 m with m | m <;> (have := m.1; unfold hm at this; omega))
    rw [o _ (.inl rfl), o _ (.inr rfl)]
    exact h.page k k0 k1 hk
/-- Homes that are written whole. -/
theorem good_homes {C D : Int → ByteArray} {base n T : Int} {want : Int → Int × ByteArray} (h : Inv C base n T want) {e i : Int} {b : ByteArray} (hj : J C base n = some (e, i, b)) (hT : T ≤ 4294967296) (hn : 0 ≤ n ∧ n ≤ 8)
    (hD : ∀ q, base ≤ q → q < base + (3 + 2 * n) → D q = if q = hm base i then secS e (2 * i) (b.extract 0 112) else if q = hm base i + 1 then secS e (2 * i + 1) (b.extract 112 224) else C q) : Good D base n T want := by
  obtain ⟨vh, he, hi, v0, e0, v1, e1, hb, hb2, _⟩ := jour_some hj
  have eb := (unpack_lt (C (base + 2))).1
  have he2 : 0 ≤ e ∧ e < 4294967296 := by rw [← he]; exact eb
  refine ⟨inv_homes h hj hT hn (fun q a c => ?_), fun k k0 k1 => ?_⟩
  · rw [hD q a c]
    by_cases x : q = hm base i
    · rw [if_pos x]; exact .inr (.inl ⟨_, mem_two.2 (.inl ⟨x, rfl⟩), rfl⟩)
    · rw [if_neg x]
      by_cases y : q = hm base i + 1
      · rw [if_pos y]; exact .inr (.inl ⟨_, mem_two.2 (.inr ⟨y, rfl⟩), rfl⟩)
      · rw [if_neg y]; exact .inl rfl
  · by_cases x : k = i
    · subst x
      refine .inr ⟨e, b, he2, h.j e k b hj, ?_, ?_⟩
      · rw [hD _ (by unfold hm; omega) (by unfold hm; omega), if_pos rfl]
      · rw [hD _ (by unfold hm; omega) (by unfold hm; omega), if_neg (by omega), if_pos rfl]
    · rw [hD _ (by unfold hm; omega) (by unfold hm; omega), hD _ (by unfold hm; omega) (by unfold hm; omega), if_neg (by unfold hm; omega), if_neg (by unfold hm; omega), if_neg (by unfold hm; omega), if_neg (by unfold hm; omega)]
      refine h.page k k0 k1 (fun e' b' hx => ?_)
      rw [hj] at hx
      injection hx with hx; injection hx with h1 hx; injection hx with h2 h3
      exact x h2.symm
theorem Inv.next {C : Int → ByteArray} {base n T T2 : Int} {want : Int → Int × ByteArray} (h : Inv C base n T want) (hT : T ≤ T2) : Inv C base n T2 want := ⟨fun q a b v => Int.lt_of_lt_of_le (h.fine q a b v) hT, h.j, h.page⟩
theorem Good.next {C : Int → ByteArray} {base n T T2 : Int} {want : Int → Int × ByteArray} (h : Good C base n T want) (hT : T ≤ T2) : Good C base n T2 want := ⟨h.inv.next hT, h.all⟩
/-- Copies that are written, in part, over a store that is whole: it stays whole. -/
theorem good_copies {C D : Int → ByteArray} {base n T : Int} {want : Int → Int × ByteArray} (h : Good C base n T want) (hT : 0 ≤ T ∧ T < 4294967296) (hn : 0 ≤ n ∧ n ≤ 8) {b0 b1 : ByteArray} (hb0 : b0.size ≤ 112) (hb1 : b1.size ≤ 112)
    (hm' : Mix base (base + (3 + 2 * n)) C (two base (secS T 0 b0) (secS T 1 b1)) D) : Good D base n (T + 1) want := by
  have o : ∀ q, base + 2 ≤ q → q < base + (3 + 2 * n) → D q = C q := fun q a c => hm'.off (by omega) c (fun s m => by rcases mem_two.1 m with m | m <;> (have := m.1; omega))
  have x0 := hm'.at (q := base) (x := secS T 0 b0) (by omega) (by omega) (fun s m => by rcases mem_two.1 m with m | m; exact m.2; have := m.1; omega)
  have x1 := hm'.at (q := base + 1) (x := secS T 1 b1) (by omega) (by omega) (fun s m => by rcases mem_two.1 m with m | m; (have := m.1; omega); exact m.2)
  have u0 : valid (secS T 0 b0) ∧ ep (secS T 0 b0) = T := by refine ⟨sec_valid hT (by decide) hb0, ?_⟩; show (X12.unpackF _).1 = T; rw [u_sec _ _ _ hT (by decide) hb0]
  have u1 : valid (secS T 1 b1) ∧ ep (secS T 1 b1) = T := by refine ⟨sec_valid hT (by decide) hb1, ?_⟩; show (X12.unpackF _).1 = T; rw [u_sec _ _ _ hT (by decide) hb1]
  have hJ : J D base n = J C base n ∨ J D base n = none := by
    by_cases hc : J D base n = none
    · exact .inr hc
    · left
      obtain ⟨⟨e, i, b⟩, hx⟩ := Option.ne_none_iff_exists'.1 hc
      obtain ⟨vh, he, hi, v0, e0, v1, e1, hb, hb2, _⟩ := jour_some hx
      rw [o (base + 2) (by omega) (by omega)] at vh he
      have hlt := h.inv.fine (base + 2) (by omega) (by omega) vh
      have y0 : D base = C base := by
        rcases x0 with y | y | y
        · exact y
        · rw [y] at v0 e0; have := u0.2; omega
        · rw [y] at v0; exact absurd v0 not_nought
      have y1 : D (base + 1) = C (base + 1) := by
        rcases x1 with y | y | y
        · exact y
        · rw [y] at v1 e1; have := u1.2; omega
        · rw [y] at v1; exact absurd v1 not_nought
      show jour n (D base) (D (base + 1)) (D (base + 2)) = jour n (C base) (C (base + 1)) (C (base + 2))
      rw [y0, y1, o (base + 2) (by omega) (by omega)]
  have pg : ∀ k, 0 ≤ k → k < n → PageOk (D (hm base k)) (D (hm base k + 1)) k (want k) := fun k k0 k1 => by
    rw [o _ (by unfold hm; omega) (by unfold hm; omega), o _ (by unfold hm; omega) (by unfold hm; omega)]
    exact h.all k k0 k1
  refine ⟨⟨fun q a c hv => ?_, fun e i b hj => ?_, fun k k0 k1 _ => pg k k0 k1⟩, pg⟩
  · by_cases q0 : q = base
    · subst q0
      rcases x0 with y | y | y
      · rw [y] at hv ⊢; have := h.inv.fine q a c hv; omega
      · rw [y]; have := u0.2; omega
      · rw [y] at hv; exact absurd hv not_nought
    · by_cases q1 : q = base + 1
      · subst q1
        rcases x1 with y | y | y
        · rw [y] at hv ⊢; have := h.inv.fine _ a c hv; omega
        · rw [y]; have := u1.2; omega
        · rw [y] at hv; exact absurd hv not_nought
      · rw [o q (by omega) c] at hv ⊢
        have := h.inv.fine q a c hv; omega
  · rcases hJ with x | x
    · exact h.inv.j e i b (x ▸ hj)
    · rw [x] at hj; cases hj
def up (want : Int → Int × ByteArray) (i : Int) (p : Int × ByteArray) : Int → Int × ByteArray := fun k => if k = i then p else want k
theorem byte1_bt {i : Int} (h : 0 ≤ i ∧ i < 256) : bt (byte1 i) 0 = i := by
  unfold byte1
  rw [show i % 256 = i by omega]
  unfold bt
  have hz : (0 : Int).toNat < (strOfNums [i]).size := by rw [strOfNums_size]; exact Nat.one_pos
  rw [dif_pos hz]
  show (((UInt8.ofNat i.toNat).toNat : Nat) : Int) = i
  rw [UInt8.toNat_ofNat']
  omega
/-- The head is written, or not: the new page, or the old one. -/
theorem inv_head {C D : Int → ByteArray} {base n T : Int} {want : Int → Int × ByteArray} (hT : 0 ≤ T ∧ T < 4294967296) (hn : 0 ≤ n ∧ n ≤ 8) {i : Int} (hi : 0 ≤ i ∧ i < n) {p : Int × ByteArray} {b : ByteArray} (hp : Packed b p)
    (hf : ∀ q, base ≤ q → q < base + (3 + 2 * n) → valid (C q) → ep (C q) ≤ T) (hh : valid (C (base + 2)) → ep (C (base + 2)) < T) (ha : ∀ k, 0 ≤ k → k < n → PageOk (C (hm base k)) (C (hm base k + 1)) k (want k))
    (h0 : C base = secS T 0 (b.extract 0 112)) (h1 : C (base + 1) = secS T 1 (b.extract 112 224))
    (hm' : Mix base (base + (3 + 2 * n)) C [(base + 2, secS T 2 (byte1 i))] D) : (D (base + 2) = secS T 2 (byte1 i) → Inv D base n (T + 1) (up want i p) ∧ J D base n = some (T, i, b)) ∧ (D (base + 2) ≠ secS T 2 (byte1 i) → Good D base n (T + 1) want) := by
  have o : ∀ q, base ≤ q → q < base + (3 + 2 * n) → q ≠ base + 2 → D q = C q := fun q a c x => hm'.off a c (fun s m => by have := (mem_sing.1 m).1; omega)
  have x2 := hm'.at (q := base + 2) (x := secS T 2 (byte1 i)) (by omega) (by omega) (fun s m => (mem_sing.1 m).2)
  have sz := hp.size
  have s1 : (b.extract 0 112).size = 112 := by rw [ByteArray.size_extract]; omega
  have s2 : (b.extract 112 224).size = 112 := by rw [ByteArray.size_extract]; omega
  have s3 : (byte1 i).size ≤ 112 := by rw [byte1_size]; decide
  have u0 := u_sec T 0 (b.extract 0 112) hT (by decide) (by omega)
  have u1 := u_sec T 1 (b.extract 112 224) hT (by decide) (by omega)
  have u2 := u_sec T 2 (byte1 i) hT (by decide) s3
  have d0 : D base = secS T 0 (b.extract 0 112) := by rw [o base (by omega) (by omega) (by omega), h0]
  have d1 : D (base + 1) = secS T 1 (b.extract 112 224) := by rw [o (base + 1) (by omega) (by omega) (by omega), h1]
  have pg : ∀ k, 0 ≤ k → k < n → PageOk (D (hm base k)) (D (hm base k + 1)) k (want k) := fun k k0 k1 => by
    rw [o _ (by unfold hm; omega) (by unfold hm; omega) (by unfold hm; omega), o _ (by unfold hm; omega) (by unfold hm; omega) (by unfold hm; omega)]
    exact ha k k0 k1
  have fine : ∀ q, base ≤ q → q < base + (3 + 2 * n) → valid (D q) → ep (D q) < T + 1 := fun q a c v => by
    by_cases e : q = base + 2
    · subst e
      rcases x2 with y | y | y
      · rw [y] at v ⊢; have := hf _ a c v; omega
      · rw [y]; show (X12.unpackF _).1 < T + 1; rw [u2]; show T < T + 1; omega
      · rw [y] at v; exact absurd v not_nought
    · rw [o q a c e] at v ⊢; have := hf q a c v; omega
  have old : J D base n = none → Good D base n (T + 1) want := fun x => ⟨⟨fine, fun e i b h => absurd (x.symm.trans h) (fun z => by cases z), fun k k0 k1 _ => pg k k0 k1⟩, pg⟩
  constructor
  · intro y
    have hJ : J D base n = some (T, i, b) := by
      show jour n (D base) (D (base + 1)) (D (base + 2)) = _
      rw [d0, d1, y]
      unfold jour
      have hh : hd n (secS T 2 (byte1 i)) = some (T, i) := by
        unfold hd
        rw [if_pos ⟨by unfold valid; rw [u2], by show (X12.unpackF _).2.1 = 2; rw [u2], by show (X12.unpackF _).2.2.1.size = 1; rw [u2]; exact byte1_size i, by show bt (X12.unpackF _).2.2.1 0 < n; rw [u2]; show bt (byte1 i) 0 < n; rw [byte1_bt (by omega)]; exact hi.2⟩]
        show some ((X12.unpackF _).1, bt (X12.unpackF _).2.2.1 0) = _
        rw [u2]
        show some (T, bt (byte1 i) 0) = _
        rw [byte1_bt (by omega)]
      have p0 : part T 0 (secS T 0 (b.extract 0 112)) = some (b.extract 0 112) := by
        unfold part
        rw [if_pos ⟨by unfold valid; rw [u0], by show (X12.unpackF _).2.1 = 0; rw [u0], by show (X12.unpackF _).1 = T; rw [u0], by show (X12.unpackF _).2.2.1.size = 112; rw [u0]; exact s1⟩]
        show some (X12.unpackF _).2.2.1 = _
        rw [u0]
      have p1 : part T 1 (secS T 1 (b.extract 112 224)) = some (b.extract 112 224) := by
        unfold part
        rw [if_pos ⟨by unfold valid; rw [u1], by show (X12.unpackF _).2.1 = 1; rw [u1], by show (X12.unpackF _).1 = T; rw [u1], by show (X12.unpackF _).2.2.1.size = 112; rw [u1]; exact s2⟩]
        show some (X12.unpackF _).2.2.1 = _
        rw [u1]
      rw [hh]
      simp only [p0, p1]
      have cat : b.extract 0 112 ++ b.extract 112 224 = b := by
        rw [ByteArray.extract_append_extract]
        have e : b.size = 224 := sz
        rw [show min 0 112 = 0 by decide, show max 112 224 = b.size by rw [e]; decide]
        exact ByteArray.extract_zero_size
      rw [cat]
    refine ⟨⟨fine, fun e i' b' h => ?_, fun k k0 k1 hk => ?_⟩, hJ⟩
    · have e := Prod.mk.inj (Prod.mk.inj (Option.some.inj (hJ.symm.trans h))).2
      rw [← e.1, ← e.2]
      unfold up; rw [if_pos rfl]; exact hp
    · have hki : k ≠ i := fun x => by subst x; exact hk T b hJ
      unfold up; rw [if_neg hki]; exact pg k k0 k1
  · intro hne
    rcases x2 with y | y | y
    · refine old ?_
      by_cases hc : J D base n = none
      · exact hc
      · obtain ⟨⟨e, i', b'⟩, hx⟩ := Option.ne_none_iff_exists'.1 hc
        obtain ⟨vh, he, _, v0, e0, _⟩ := jour_some hx
        rw [y] at vh he
        have := hh vh
        rw [d0] at e0
        have : (X12.unpackF (secS T 0 (b.extract 0 112))).1 = e := e0
        rw [u0] at this
        have : T = e := this
        omega
    · exact absurd y hne
    · refine old ?_
      by_cases hc : J D base n = none
      · exact hc
      · obtain ⟨⟨e, i', b'⟩, hx⟩ := Option.ne_none_iff_exists'.1 hc
        obtain ⟨vh, _⟩ := jour_some hx
        rw [y] at vh
        exact absurd vh not_nought
end Go.Proofs.Ytneilimiijcghaa.St
