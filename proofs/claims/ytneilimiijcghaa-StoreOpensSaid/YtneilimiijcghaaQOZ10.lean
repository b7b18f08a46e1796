import Derived.Test.YtneilimiijcghaaRows
import Derived.WalkKit
import Derived.ProofKit
import Derived.OpenShut
import Derived.ShutString
import Derived.ChangeOld
import Derived.Below
import Derived.SizedLaws
import Derived.Test.YtneilimiijcghaaQOZ0
import Derived.Test.YtneilimiijcghaaQOZ1
import Derived.Test.YtneilimiijcghaaQOZ2
import Derived.Test.YtneilimiijcghaaQOZ3
import Derived.Test.YtneilimiijcghaaQOZ4
import Derived.Test.YtneilimiijcghaaQOZ5
import Derived.Test.YtneilimiijcghaaQOZ6
import Derived.Test.YtneilimiijcghaaQOZ7
import Derived.Test.YtneilimiijcghaaQOZ8
import Derived.Test.YtneilimiijcghaaQOZ9
namespace Go.Proofs.Ytneilimiijcghaa.St
open Go Go.RowKit Go.ChangeMaps Go.Proofs.Ytneilimiijcghaa.Arr Go.Proofs.Ytneilimiijcghaa.Mp Go.Proofs.Ytneilimiijcghaa.Ow Go.Proofs.Ytneilimiijcghaa.Dk Go.Proofs.YtneilimiijcghaaW.PrintWords Go.Proofs.YtneilimiijcghaaW.PrintLast Go.Proofs.YtneilimiijcghaaW.PrintMore
set_option linter.unusedVariables false
set_option linter.unusedSimpArgs false
theorem loop_bl (s : ByteArray) : ∀ (d i : Nat) (r : List UInt8), i + d = s.size → ByteArray.toList.loop s i r = r.reverse ++ (s.data.toList).drop i := by
  intro d
  induction d with
  | zero =>
    intro i r h
    rw [ByteArray.toList.loop, if_neg (by omega), List.drop_of_length_le (by rw [Array.length_toList]; exact Nat.le_of_eq (by show s.size = i; omega)), List.append_nil]
  | succ d ih =>
    intro i r h
    have hi : i < s.size := by omega
    have hl : i < (s.data.toList).length := by rw [Array.length_toList]; exact hi
    rw [ByteArray.toList.loop, if_pos hi, ih (i + 1) _ (by omega), List.drop_eq_getElem_cons hl, List.reverse_cons, List.append_assoc]
    have e : s.get! i = (s.data.toList)[i] := by
      show s.data[i]! = s.data.toList[i]
      have hd : i < s.data.size := hi
      rw [getElem!_pos s.data i hd]
      exact (Array.getElem_toList hd).symm
    rw [e]
    rfl
theorem toList_bl (s : ByteArray) : s.toList = s.data.toList := by
  show ByteArray.toList.loop s 0 [] = _
  rw [loop_bl s s.size 0 [] (by omega)]
  rfl
theorem toList_eq (a b : ByteArray) : a.toList = b.toList ↔ a = b := by
  constructor
  · intro h
    rw [toList_bl, toList_bl] at h
    cases a; cases b
    simp at h
    rw [h]
  · rintro rfl; rfl
/-- What Read says, by equality of bytes. -/
def readP (d : DS) (base n i : Int) : Int × ByteArray × Int :=
  if i < 0 ∨ n ≤ i then (0, ⟨#[]⟩, 2)
  else if readE d (base + (3 + 2 * i)) ≠ 0 then (0, ⟨#[]⟩, readE d (base + (3 + 2 * i)))
  else if readS d (base + (3 + 2 * i)) = noughts 128 ∧ readS d (base + (3 + 2 * i) + 1) = readS d (base + (3 + 2 * i)) then (0, noughts 220, 0)
  else if (sreadF d (base + (3 + 2 * i)) (2 * i)).2.2.2 = true ∧ (sreadF d (base + (3 + 2 * i + 1)) (2 * i + 1)).2.2.2 = true ∧ (sreadF d (base + (3 + 2 * i)) (2 * i)).1 = (sreadF d (base + (3 + 2 * i + 1)) (2 * i + 1)).1 then
    (if (X12.punF ((sreadF d (base + (3 + 2 * i)) (2 * i)).2.2.1 ++ (sreadF d (base + (3 + 2 * i + 1)) (2 * i + 1)).2.2.1)).2.2 = 0 then X12.punF ((sreadF d (base + (3 + 2 * i)) (2 * i)).2.2.1 ++ (sreadF d (base + (3 + 2 * i + 1)) (2 * i + 1)).2.2.1) else (0, ⟨#[]⟩, 8))
  else (0, ⟨#[]⟩, 8)
theorem readP_eq (d : DS) (base n i : Int) : storeR d base n i = readP d base n i := by
  unfold storeR readP
  simp only [toList_eq]
def awA : DS := { newD 7 with fuse := max 5 (-1) }
def awW : DS := (storeW 0 2 1 1 9 (noughts 220) awA).2.2
theorem aw_w : (storeW 0 2 1 1 9 (noughts 220) awA).1 = 4 ∧ (storeW 0 2 1 1 9 (noughts 220) awA).2.1 = 2 := by decide +kernel
def awC : DS := crashD 0 (fun _ => 0) awW
theorem aw_l : latestF awC 0 (secN 2) = 1 := by decide +kernel
theorem aw_g : awC.gone = false := rfl
theorem aw_r : (repairS 0 2 awC).1 = 0 := by decide +kernel
def awO : DS := (repairS 0 2 awC).2
theorem aw_1 : storeR awO 0 2 1 = (9, noughts 220, 0) := by rw [readP_eq]; decide +kernel
theorem aw_0 : storeR awO 0 2 0 = (0, noughts 220, 0) := by rw [readP_eq]; decide +kernel
theorem aw_n : newOk (newD 7) 0 2 := by unfold newOk; decide +kernel
theorem aw_nc : newOk awC 0 2 := by unfold newOk; decide +kernel
end Go.Proofs.Ytneilimiijcghaa.St
namespace Go.Proofs.Ytneilimiijcghaa.St
open Go.Proofs.Ytneilimiijcghaa.Rgn
open Go Go.RowKit Go.ChangeMaps Go.Proofs.Ytneilimiijcghaa.Arr Go.Proofs.Ytneilimiijcghaa.Mp Go.Proofs.Ytneilimiijcghaa.Ow Go.Proofs.Ytneilimiijcghaa.Dk Go.Proofs.YtneilimiijcghaaW.PrintWords Go.Proofs.YtneilimiijcghaaW.PrintLast Go.Proofs.YtneilimiijcghaaW.PrintMore
set_option linter.unusedVariables false
set_option linter.unusedSimpArgs false
theorem str_noughts : strOfNums (List.replicate 220 0) = noughts 220 := by decide +kernel
theorem refempty_calls (w : World) : Calls Try.prog 11 #[] w fun e w' => e = .returned (.agg #[.int .i64 0, .string (noughts 220)]) ∧ Below w.heap.size w w' :=
  X12.careenref06_Empty.calls 0 (noughts 220) w (by unfold X12.careenref06_Empty.f; rw [if_pos (by decide), str_noughts])
theorem new7 (w : World) : Calls Try.prog 7 #[.int .i64 7] w fun e w' => ∃ g, w.heap.size ≤ g ∧ e = .returned (.tuple #[.pointer (some ⟨g, 0, none⟩), .int .i64 0]) ∧ DK w' (fun k => w.heap.size ≤ k) g (newD 7) ∧ Below w.heap.size w w' := new_calls 7 (by decide) (by decide) w
theorem fld1 (a b : Value) (w : World) : (Instr.field 34 (.agg #[a, b]) 1).run Try.prog w = .ok b w := by kernel_rfl
theorem eqA34 (d : Nat) (w : World) (x0 y0 : Int) (x1 y1 : ByteArray) : (Op.equalIn (d + 2) 34 (.agg #[.int .i64 x0, .string x1]) (.agg #[.int .i64 y0, .string y1])).run Try.prog w = .ok (x0 == y0 && (x1.toList == y1.toList)) w := by
  refine eqA_of Try.underlying34 (by kernel_rfl) ?_
  refine eqf_cons (by rfl) (by go_simp; rfl) (by go_simp; rfl) (by go_simp) ?_
  exact eqf_last (by rfl) (by go_simp; rfl) (by go_simp; rfl) (by go_simp)
attribute [local go_sem] fld1
attribute [local go_sem high] eqA34
theorem aw_oka : OkN 0 awA := ok_arm (ok_new 7 (by decide)) 5 (by decide)
theorem aw_okw : OkD awW := by unfold OkD; decide +kernel
theorem aw_okc : OkN 0 awC := ok_crash (n := 1000) ⟨aw_okw, by decide +kernel⟩
theorem aw_oko : OkN 1000 awO := ⟨by unfold OkD; decide +kernel, by decide +kernel⟩
set_option maxHeartbeats 8000000 in
set_option maxRecDepth 8192 in
theorem awake_calls (w : World) : Calls Try.prog 9 #[] w fun e w' => e = .returned (.bool true) ∧ Below w.heap.size w w' := by
  go_enter Try.func9, Try.ntmps9
  go_upto_region 2 with (go_at_call 7; (with_reducible refine (new7 _).mono ?_); rintro e w1 ⟨g, hg, rfl, hk, hb⟩; have HD1 := Aside0.mk hk; have HB1 := Aside0.mk hb; have HG := Aside0.mk hg; clear hk hb hg)
  have HT1 := Aside0.mk (show Top (fun k => w.heap.size ≤ k) w1 from fun k hk => Nat.le_trans HB1.out.size hk)
  go_upto_region 3 with (go_at_call 8; (with_reducible refine (snew_calls (newD 7) g 0 2 (fun k => w.heap.size ≤ k) _ HD1.out (ok_new 7 (by decide)) (by decide) aw_n).mono ?_); rintro e w2 ⟨gs, rfl, hgs, hk, hb⟩; have HK2 := Aside0.mk hk; have HB2 := Aside0.mk (Arr.below_trans HB1.out hb); have HGS := Aside0.mk hgs; have HT2 := Aside0.mk (HT1.out.next hb.size); clear hk hb hgs)
  go_upto_region 4 with (go_at_call 11; (with_reducible refine (refempty_calls _).mono ?_); rintro e w3 ⟨rfl, hb⟩; have HK3 := Aside0.mk (HK2.out.below hb); have HB3 := Aside0.mk (Arr.below_trans HB2.out hb); have HT3 := Aside0.mk (HT2.out.next hb.size); clear hb)
  have HP := Aside0.mk (heap_alloc_new w3 (.cells #[.int .i64 9, .string (noughts 220)] TP))
  have hba := (Below.refl w3.heap.size w3).alloc (Nat.le_refl _) (.cells #[.int .i64 9, .string (noughts 220)] TP)
  have HGB := Aside0.mk (show gs ≠ w3.heap.size by have := HK3.out.lt; omega)
  have HBW := Aside0.mk (show w.heap.size ≤ w3.heap.size from HB3.out.size)
  have HGW := Aside0.mk (show w.heap.size ≤ gs by have := HGS.out; have := HB1.out.size; omega)
  obtain ⟨S3, hS3⟩ : ∃ S3 : Nat → Prop, S3 = fun k => (w.heap.size ≤ k ∧ k ≠ gs) ∧ k ≠ w3.heap.size := ⟨_, rfl⟩
  have HIN := Aside0.mk (show ∀ k, S3 k → w.heap.size ≤ k from fun k e => by rw [hS3] at e; exact e.1.1)
  have HXB := Aside0.mk (show ¬ S3 w3.heap.size from fun e => by rw [hS3] at e; exact e.2 rfl)
  have HK4 := Aside0.mk ((HK3.out.less (S1 := S3) (fun k hk e => by rw [hS3]; exact ⟨e, by omega⟩) (fun k e => by rw [hS3] at e; exact e.1)).below hba)
  have HB4 := Aside0.mk (Arr.below_trans HB3.out hba)
  have HT4 := Aside0.mk (show Top S3 (w3.alloc (.cells #[.int .i64 9, .string (noughts 220)] TP)) from fun k hk => by
    simp at hk
    rw [hS3]
    have := HK3.out.lt
    have := HBW.out
    exact ⟨⟨by omega, by omega⟩, by omega⟩)
  clear hba hS3 HK3 HB3 HT3 HK2 HB2 HT2 HB1 HT1 HD1 HGS
  generalize w3.alloc (.cells #[.int .i64 9, .string (noughts 220)] TP) = W4 at *
  generalize w3.heap.size = bp at *
  go_upto_region 5 with (go_at_call 14; (with_reducible refine (arm_calls (newD 7) g 5 S3 _ HK4.out.dk).mono ?_); rintro e w5 ⟨rfl, hk, hf⟩; have HK5 := Aside0.mk (show SK w5 S3 gs g 0 2 1 awA from HK4.out.step hf hk); have HB5 := Aside0.mk (hf.to_below HB4.out HIN.out); have HP5 := Aside0.mk (hf.old HP.out HXB.out); have HT5 := Aside0.mk (HT4.out.next hf.size); clear hk hf)
  clear HK4 HB4 HT4 HP
  have p0 : w5.cell? ⟨bp, 0, none⟩ = some (.int .i64 9) := blk_cell HP5.out 0
  have p1 : w5.cell? ⟨bp, 1, none⟩ = some (.string (noughts 220)) := blk_cell HP5.out 1
  go_upto_region 6 with (go_at_call 13; (with_reducible refine (swrite_calls awA g gs 0 2 1 1 9 (noughts 220) S3 _ HT5.out HK5.out aw_oka (by decide) (by decide) (by decide)).mono ?_); rintro e w6 ⟨rfl, hk, hf⟩; rw [aw_w.1]; rw [aw_w.2] at hk; have HK6 := Aside0.mk (show SK w6 S3 gs g 0 2 2 awW from hk); have HB6 := Aside0.mk (hf.to_below HB5.out (fun k e => e.elim (HIN.out k) (fun e2 => e2 ▸ HGW.out))); have HP6 := Aside0.mk (hf.old HP5.out (fun e => e.elim HXB.out (fun e2 => HGB.out e2.symm))); have HT6 := Aside0.mk (HT5.out.next hf.size); clear hk hf p0 p1)
  clear HK5 HB5 HP5 HT5
  go_upto_region 7 with (go_at_call 15; (with_reducible refine (crash_calls awW g none 0 0 (fun _ => 0) S3 _ HT6.out HK6.out.dk aw_okw (pk_nil _ _ _ _) (fun _ => by decide)).mono ?_); rintro e w7 ⟨rfl, hk, hf⟩; have HD7 := Aside0.mk (show DK w7 S3 g awC from hk); have HB7 := Aside0.mk (hf.to_below HB6.out HIN.out); have HP7 := Aside0.mk (hf.old HP6.out HXB.out); have HT7 := Aside0.mk (HT6.out.next hf.size); clear hk hf)
  clear HK6 HB6 HP6 HT6
  go_upto_region 8 with (go_at_call 16; (with_reducible refine (sopen_calls awC g 0 2 S3 _ HT7.out HD7.out aw_okc (by decide) (by decide) aw_nc aw_g (by rw [aw_l]; decide)).mono ?_); rintro e w8 ⟨g2, hg2, rfl, hk, hf⟩; rw [aw_r, show openV 0 g2 = .pointer (some ⟨g2, 0, none⟩) from rfl]; rw [aw_l] at hk; have HK8 := Aside0.mk (show SK w8 (fun k => S3 k ∧ k ≠ g2) g2 g 0 2 2 awO from hk); have HB8 := Aside0.mk (hf.to_below HB7.out HIN.out); have HP8 := Aside0.mk (hf.old HP7.out HXB.out); clear hk hf hg2)
  clear HD7 HB7 HP7 HT7
  go_upto_region 9 with (go_at_call 17; (with_reducible refine (sRead_calls awO g g2 0 2 2 1 _ _ HK8.out aw_oko (by decide)).mono ?_); rintro e w9 ⟨rfl, hb⟩; rw [aw_1]; have HK9 := Aside0.mk (HK8.out.below hb); have HB9 := Aside0.mk (Arr.below_trans HB8.out hb); have HP9 := Aside0.mk ((hb.block _ (blk_lt HP8.out)).trans HP8.out); clear hb)
  have HQ := Aside0.mk (heap_alloc_new w9 (.cells #[.int .i64 9, .string (noughts 220)] TP))
  have hba := (Below.refl w9.heap.size w9).alloc (Nat.le_refl _) (.cells #[.int .i64 9, .string (noughts 220)] TP)
  have HK10 := Aside0.mk (HK9.out.below hba); have HB10 := Aside0.mk (Arr.below_trans HB9.out hba); have HP10 := Aside0.mk ((hba.block _ (blk_lt HP9.out)).trans HP9.out)
  clear hba HK9 HB9 HP9 HK8 HB8 HP8
  generalize w9.alloc (.cells #[.int .i64 9, .string (noughts 220)] TP) = W10 at *
  generalize w9.heap.size = bq at *
  go_upto_region 10 with (go_at_call 17; (with_reducible refine (sRead_calls awO g g2 0 2 2 0 _ _ HK10.out aw_oko (by decide)).mono ?_); rintro e w11 ⟨rfl, hb⟩; rw [aw_0]; have HK11 := Aside0.mk (HK10.out.below hb); have HB11 := Aside0.mk (Arr.below_trans HB10.out hb); have HP11 := Aside0.mk ((hb.block _ (blk_lt HP10.out)).trans HP10.out); have HQ11 := Aside0.mk ((hb.block _ (blk_lt HQ.out)).trans HQ.out); clear hb)
  have HV := Aside0.mk (heap_alloc_new w11 (.cells #[.int .i64 0, .string (noughts 220)] TP))
  have hba := (Below.refl w11.heap.size w11).alloc (Nat.le_refl _) (.cells #[.int .i64 0, .string (noughts 220)] TP)
  have HK12 := Aside0.mk (HK11.out.below hba); have HB12 := Aside0.mk (Arr.below_trans HB11.out hba); have HP12 := Aside0.mk ((hba.block _ (blk_lt HP11.out)).trans HP11.out); have HQ12 := Aside0.mk ((hba.block _ (blk_lt HQ11.out)).trans HQ11.out)
  clear hba HK11 HB11 HP11 HQ11 HK10 HB10 HP10 HQ
  generalize w11.alloc (.cells #[.int .i64 0, .string (noughts 220)] TP) = W12 at *
  generalize w11.heap.size = bv at *
  have HK13 := Aside0.mk HK12.out.drew; have HB13 := Aside0.mk HB12.out.drew
  have HP13 := Aside0.mk (show W12.drew.heap[bp]? = some (.cells #[.int .i64 9, .string (noughts 220)] TP (0, 0)) from HP12.out); have HQ13 := Aside0.mk (show W12.drew.heap[bq]? = some (.cells #[.int .i64 9, .string (noughts 220)] TP (0, 0)) from HQ12.out); have HV13 := Aside0.mk (show W12.drew.heap[bv]? = some (.cells #[.int .i64 0, .string (noughts 220)] TP (0, 0)) from HV.out)
  clear HK12 HB12 HP12 HQ12 HV
  refine start_ (n := 38) (S := fun w' => w'.cell? ⟨bp, 0, none⟩ = some (.int .i64 9) ∧ w'.cell? ⟨bp, 1, none⟩ = some (.string (noughts 220)) ∧ w'.cell? ⟨bq, 0, none⟩ = some (.int .i64 9) ∧ w'.cell? ⟨bq, 1, none⟩ = some (.string (noughts 220)) ∧ w'.cell? ⟨bv, 0, none⟩ = some (.int .i64 0) ∧ w'.cell? ⟨bv, 1, none⟩ = some (.string (noughts 220))) (ds := []) #[false, false, false, false, false, false, false, false, false, false, false, false, false, false, false, false, false, false, false, false, false, false, false, false, false, false, false, false, false, false, false, false, false, false, false, false, false, false] (by kernel_rfl) rfl rfl ⟨blk_cell HP13.out 0, blk_cell HP13.out 1, blk_cell HQ13.out 0, blk_cell HQ13.out 1, blk_cell HV13.out 0, blk_cell HV13.out 1⟩ (fun hHeld => ?_)
  refine one_ (i := 0) (N := some 47) #[true, false, false, false, false, false, false, false, false, false, false, false, false, false, false, false, false, false, false, false, false, false, false, false, false, false, false, false, false, false, false, false, false, false, false, false, false, false] rfl rfl (by kernel_rfl) (by decide) (fun K hK => ?_)
  refine goes_ Try.func18 (by kernel_rfl) rfl #[.int .i64 2] (by rfl) rfl rfl (by (try simp only [List.map_toArray, List.map_cons, List.map_nil]); first | done | rfl) ?_
  refine (sectors_calls 2 (by decide) _).mono ?_
  rintro e v1_ ⟨rfl, hb⟩
  rw [show (secN 2 : Int) = 7 from rfl]
  refine ⟨_, rfl, ?_⟩
  have HK14 := Aside0.mk (HK13.out.below hb); have HB14 := Aside0.mk (Arr.below_trans HB13.out hb); have HP14 := Aside0.mk ((hb.block _ (blk_lt HP13.out)).trans HP13.out); have HQ14 := Aside0.mk ((hb.block _ (blk_lt HQ13.out)).trans HQ13.out); have HV14 := Aside0.mk ((hb.block _ (blk_lt HV13.out)).trans HV13.out)
  clear hb
  refine hK _ _ ⟨blk_cell (w := v1_) HP14.out 0, blk_cell (w := v1_) HP14.out 1, blk_cell (w := v1_) HQ14.out 0, blk_cell (w := v1_) HQ14.out 1, blk_cell (w := v1_) HV14.out 0, blk_cell (w := v1_) HV14.out 1⟩ (fun hHeld => ?_)
  clear hK K
  refine norm_ (a' := ?_) ?_ ?_
  rotate_left
  · show Act.put _ (some 47) _ = _
    simp only [Act.put, List.setIfInBounds_toArray, List.set_cons_zero, List.set_cons_succ, i64_w, i32_w]
    rfl
  refine rgp 1 48 ?_
  refine rgp 2 49 ?_
  refine rgp 3 50 ?_
  refine rgp 4 51 ?_
  refine rgp 5 52 ?_
  refine rgp 6 53 ?_
  refine rgp 7 54 ?_
  refine rgp 8 55 ?_
  refine rgp 9 56 ?_
  refine rgp 10 57 ?_
  refine rgp 11 58 ?_
  refine rgp 12 59 ?_
  refine rgp 13 60 ?_
  refine rgp 14 61 ?_
  refine rgt 15 62 hHeld ?_
  refine rgt 16 63 hHeld ?_
  refine rgp 17 64 ?_
  refine rgp 18 65 ?_
  refine rgp 19 66 ?_
  refine rgp 20 67 ?_
  refine rgp 21 68 ?_
  refine rgp 22 69 ?_
  refine rgp 23 70 ?_
  refine rgt 24 71 hHeld ?_
  refine one_ (i := 25) (N := some 72) #[true, true, true, true, true, true, true, true, true, true, true, true, true, true, true, true, true, true, true, true, true, true, true, true, true, true, false, false, false, false, false, false, false, false, false, false, false, false] rfl rfl (by kernel_rfl) (by decide) (fun K hK => ?_)
  refine goes_ Try.func11 (by kernel_rfl) rfl #[] (by rfl) rfl rfl (by (try simp only [List.map_toArray, List.map_cons, List.map_nil]); first | done | rfl) ?_
  refine (refempty_calls _).mono ?_
  rintro e v2_ ⟨rfl, hb⟩
  skip
  refine ⟨_, rfl, ?_⟩
  have HK15 := Aside0.mk (HK14.out.below hb); have HB15 := Aside0.mk (Arr.below_trans HB14.out hb); have HP15 := Aside0.mk ((hb.block _ (blk_lt HP14.out)).trans HP14.out); have HQ15 := Aside0.mk ((hb.block _ (blk_lt HQ14.out)).trans HQ14.out); have HV15 := Aside0.mk ((hb.block _ (blk_lt HV14.out)).trans HV14.out)
  clear hb
  refine hK _ _ ⟨blk_cell (w := v2_) HP15.out 0, blk_cell (w := v2_) HP15.out 1, blk_cell (w := v2_) HQ15.out 0, blk_cell (w := v2_) HQ15.out 1, blk_cell (w := v2_) HV15.out 0, blk_cell (w := v2_) HV15.out 1⟩ (fun hHeld => ?_)
  clear hK K
  refine norm_ (a' := ?_) ?_ ?_
  rotate_left
  · show Act.put _ (some 72) _ = _
    simp only [Act.put, List.setIfInBounds_toArray, List.set_cons_zero, List.set_cons_succ, i64_w, i32_w]
    rfl
  refine rgp 26 73 ?_
  refine rgp 27 74 ?_
  refine rgp 28 75 ?_
  refine rgp 29 76 ?_
  refine rgp 30 77 ?_
  refine rgp 31 78 ?_
  refine rgp 32 79 ?_
  refine rgp 33 80 ?_
  refine one_ (i := 34) (N := some 81) #[true, true, true, true, true, true, true, true, true, true, true, true, true, true, true, true, true, true, true, true, true, true, true, true, true, true, true, true, true, true, true, true, true, true, true, false, false, false] rfl rfl (by kernel_rfl) (by decide) (fun K hK => ?_)
  refine goes_ Try.func19 (by kernel_rfl) rfl #[.pointer (some ⟨g2, 0, none⟩)] (by rfl) rfl rfl (by (try simp only [List.map_toArray, List.map_cons, List.map_nil]); first | done | rfl) ?_
  refine (ticket_calls awO g g2 0 2 2 _ _ HK15.out (by decide)).mono ?_
  rintro e v3_ ⟨rfl, hb⟩
  skip
  refine ⟨_, rfl, ?_⟩
  have HK16 := Aside0.mk (HK15.out.below hb); have HB16 := Aside0.mk (Arr.below_trans HB15.out hb); have HP16 := Aside0.mk ((hb.block _ (blk_lt HP15.out)).trans HP15.out); have HQ16 := Aside0.mk ((hb.block _ (blk_lt HQ15.out)).trans HQ15.out); have HV16 := Aside0.mk ((hb.block _ (blk_lt HV15.out)).trans HV15.out)
  clear hb
  refine hK _ _ ⟨blk_cell (w := v3_) HP16.out 0, blk_cell (w := v3_) HP16.out 1, blk_cell (w := v3_) HQ16.out 0, blk_cell (w := v3_) HQ16.out 1, blk_cell (w := v3_) HV16.out 0, blk_cell (w := v3_) HV16.out 1⟩ (fun hHeld => ?_)
  clear hK K
  refine norm_ (a' := ?_) ?_ ?_
  rotate_left
  · show Act.put _ (some 81) _ = _
    simp only [Act.put, List.setIfInBounds_toArray, List.set_cons_zero, List.set_cons_succ, i64_w, i32_w]
    rfl
  refine rgp 35 82 ?_
  refine rgp 36 83 ?_
  refine rgp 37 0 ?_
  refine done_ (by kernel_rfl) ?_
  go_wp2
  go_ret
  exact ⟨rfl, HB16.out⟩
end Go.Proofs.Ytneilimiijcghaa.St
namespace Go.Proofs.Ytneilimiijcghaa.St
open Go Go.RowKit Go.ChangeMaps Go.Proofs.YtneilimiijcghaaW.PrintWords Go.Proofs.Ytneilimiijcghaa.Arr Go.Proofs.Ytneilimiijcghaa.Mp Go.Proofs.Ytneilimiijcghaa.Ow Go.Proofs.Ytneilimiijcghaa.Dk Go.Proofs.Ytneilimiijcghaa.Cr
set_option linter.unusedVariables false
set_option linter.unusedSimpArgs false
def valid (s : ByteArray) : Prop := (X12.unpackF s).2.2.2 = 0
abbrev ep (s : ByteArray) : Int := (X12.unpackF s).1
abbrev ix (s : ByteArray) : Int := (X12.unpackF s).2.1
abbrev bd (s : ByteArray) : ByteArray := (X12.unpackF s).2.2.1
theorem not_nought : ¬ valid (noughts 128) := by unfold valid; decide +kernel
theorem u_sec (t i : Int) (b : ByteArray) (ht : 0 ≤ t ∧ t < 4294967296) (hi : 0 ≤ i ∧ i < 4294967296) (hb : b.size ≤ 112) : X12.unpackF (secS t i b) = (t, i, b, 0) := X12.unpack_pack t i b ht hi hb
theorem sec_valid {t i : Int} {b : ByteArray} (ht : 0 ≤ t ∧ t < 4294967296) (hi : 0 ≤ i ∧ i < 4294967296) (hb : b.size ≤ 112) : valid (secS t i b) := by unfold valid; rw [u_sec t i b ht hi hb]
theorem sec_nz {t i : Int} {b : ByteArray} (ht : 0 ≤ t ∧ t < 4294967296) (hi : 0 ≤ i ∧ i < 4294967296) (hb : b.size ≤ 112) : secS t i b ≠ noughts 128 := fun e => not_nought (e ▸ sec_valid ht hi hb)
theorem ep_sec {t i : Int} {b : ByteArray} (ht : 0 ≤ t ∧ t < 4294967296) (hi : 0 ≤ i ∧ i < 4294967296) (hb : b.size ≤ 112) : ep (secS t i b) = t := by unfold ep; rw [u_sec t i b ht hi hb]
open Classical in
/-- What the journal's head says. -/
noncomputable def hd (n : Int) (h : ByteArray) : Option (Int × Int) := if valid h ∧ ix h = 2 ∧ (bd h).size = 1 ∧ bt (bd h) 0 < n then some (ep h, bt (bd h) 0) else none
open Classical in
/-- What a copy says. -/
noncomputable def part (e k : Int) (c : ByteArray) : Option ByteArray := if valid c ∧ ix c = k ∧ ep c = e ∧ (bd c).size = 112 then some (bd c) else none
/-- What the journal says: ticket, page, bytes. -/
noncomputable def jour (n : Int) (c0 c1 h : ByteArray) : Option (Int × Int × ByteArray) :=
  match hd n h with
  | none => none
  | some x => match part x.1 0 c0 with
    | none => none
    | some a => match part x.1 1 c1 with
      | none => none
      | some b => some (x.1, x.2, a ++ b)
theorem jour_some {n : Int} {c0 c1 h : ByteArray} {e i : Int} {b : ByteArray} (hj : jour n c0 c1 h = some (e, i, b)) : valid h ∧ ep h = e ∧ (0 ≤ i ∧ i < n) ∧ valid c0 ∧ ep c0 = e ∧ valid c1 ∧ ep c1 = e ∧ b = bd c0 ++ bd c1 ∧ b.size = 224 ∧ i = bt (bd h) 0 := by
  unfold jour at hj
  split at hj
  · cases hj
  · rename_i x hx
    split at hj
    · cases hj
    · rename_i a ha
      split at hj
      · cases hj
      · rename_i c hc
        unfold hd at hx
        split at hx
        · rename_i h1
          injection hx with hx; subst hx
          unfold part at ha hc
          split at ha
          · rename_i h2
            split at hc
            · rename_i h3
              injection ha with ha; injection hc with hc
              injection hj with hj; injection hj with j1 j2; injection j2 with j2 j3
              refine ⟨h1.1, j1, ⟨?_, ?_⟩, h2.1, ?_, h3.1, ?_, ?_, ?_, j2.symm⟩
              · rw [← j2]; exact (bt_range _ _).1
              · rw [← j2]; exact h1.2.2.2
              · rw [h2.2.2.1]; exact j1
              · rw [h3.2.2.1]; exact j1
              · rw [← j3, ← ha, ← hc]
              · rw [← j3, ByteArray.size_append, ← ha, ← hc, h2.2.2.2, h3.2.2.2]
            · cases hc
          · cases ha
        · cases hx
/-- The bytes of a page. -/
def Packed (b : ByteArray) (p : Int × ByteArray) : Prop := Page.packF p.1 p.2 = (b, 0)
theorem Packed.size {b : ByteArray} {p : Int × ByteArray} (h : Packed b p) : b.size = 224 := by
  have := pack_sz (a := p.1) (dta := p.2) (by rw [h])
  rw [h] at this
  exact this
abbrev noPage : Int × ByteArray := (0, noughts 220)
/-- A page's homes say it. -/
def PageOk (s0 s1 : ByteArray) (k : Int) (p : Int × ByteArray) : Prop :=
  (s0 = noughts 128 ∧ s1 = noughts 128 ∧ p = noPage) ∨ ∃ e b, (0 ≤ e ∧ e < 4294967296) ∧ Packed b p ∧ s0 = secS e (2 * k) (b.extract 0 112) ∧ s1 = secS e (2 * k + 1) (b.extract 112 224)
abbrev hm (base i : Int) : Int := base + (3 + 2 * i)
/-- The journal of a store's sectors. -/
noncomputable abbrev J (C : Int → ByteArray) (base n : Int) := jour n (C base) (C (base + 1)) (C (base + 2))
structure Inv (C : Int → ByteArray) (base n T : Int) (want : Int → Int × ByteArray) : Prop where
  fine : ∀ q, base ≤ q → q < base + (3 + 2 * n) → valid (C q) → ep (C q) < T
  j : ∀ e i b, J C base n = some (e, i, b) → Packed b (want i)
  page : ∀ k, 0 ≤ k → k < n → (∀ e b, J C base n ≠ some (e, k, b)) → PageOk (C (hm base k)) (C (hm base k + 1)) k (want k)
structure Good (C : Int → ByteArray) (base n T : Int) (want : Int → Int × ByteArray) : Prop where
  inv : Inv C base n T want
  all : ∀ k, 0 ≤ k → k < n → PageOk (C (hm base k)) (C (hm base k + 1)) k (want k)
theorem good_of {C : Int → ByteArray} {base n T : Int} {want : Int → Int × ByteArray} (h : Inv C base n T want) (hj : J C base n = none) : Good C base n T want := ⟨h, fun k h0 h1 => h.page k h0 h1 (fun e b => by rw [hj]; exact fun h => by cases h)⟩
/-- Of the writes each is done, not done, or has left noughts. -/
def Mix (lo hi : Int) (C : Int → ByteArray) (W : WL) (D : Int → ByteArray) : Prop := ∀ q, lo ≤ q → q < hi → D q = C q ∨ (∃ s, (q, s) ∈ W ∧ D q = s) ∨ ((∃ s, (q, s) ∈ W) ∧ D q = noughts 128)
theorem Mix.off {lo hi : Int} {C D : Int → ByteArray} {W : WL} (h : Mix lo hi C W D) {q : Int} (a : lo ≤ q) (b : q < hi) (hn : ∀ s, (q, s) ∉ W) : D q = C q := by
  rcases h q a b with e | ⟨s, m, _⟩ | ⟨⟨s, m⟩, _⟩
  · exact e
  · exact absurd m (hn s)
  · exact absurd m (hn s)
/-- A place at which s was written. -/
theorem Mix.at {lo hi : Int} {C D : Int → ByteArray} {W : WL} (h : Mix lo hi C W D) {q : Int} (a : lo ≤ q) (b : q < hi) {x : ByteArray} (hn : ∀ s, (q, s) ∈ W → s = x) : D q = C q ∨ D q = x ∨ D q = noughts 128 := by
  rcases h q a b with e | ⟨s, m, e⟩ | ⟨⟨s, m⟩, e⟩
  · exact .inl e
  · exact .inr (.inl (e.trans (hn s m)))
  · exact .inr (.inr e)
abbrev two (p : Int) (s0 s1 : ByteArray) : WL := [(p, s0), (p + 1, s1)]
theorem mem_two {p q : Int} {s s0 s1 : ByteArray} : (q, s) ∈ two p s0 s1 ↔ (q = p ∧ s = s0) ∨ (q = p + 1 ∧ s = s1) := by simp [two]
theorem mem_sing {p q : Int} {s s0 : ByteArray} : (q, s) ∈ [(p, s0)] ↔ q = p ∧ s = s0 := by simp
/-- Homes that are written, in part: the journal has them still. -/
theorem inv_homes {C D : Int → ByteArray} {base n T : Int} {want : Int → Int × ByteArray} (h : Inv C base n T want) {e i : Int} {b : ByteArray} (hj : J C base n = some (e, i, b)) (hT : T ≤ 4294967296)
    (hn : 0 ≤ n ∧ n ≤ 8) (hm' : Mix base (base + (3 + 2 * n)) C (two (hm base i) (secS e (2 * i) (b.extract 0 112)) (secS e (2 * i + 1) (b.extract 112 224))) D) : Inv D base n T want := by
  obtain ⟨vh, he, hi, v0, e0, v1, e1, hb, hb2, _⟩ := jour_some hj
  have eb := (unpack_lt (C (base + 2))).1
  have heT : ep (C (base + 2)) < T := h.fine (base + 2) (by omega) (by omega) vh
  have hJ : J D base n = J C base n := by
    have o : ∀ q, base ≤ q → q < base + 3 → D q = C q := fun q a c => hm'.off a (by omega) (fun s m => by rcases mem_two.1 m with m | m <;> (have := m.1; unfold hm at this; omega))
    show jour n (D base) (D (base + 1)) (D (base + 2)) = jour n (C base) (C (base + 1)) (C (base + 2))
    rw [o base (by omega) (by omega), o (base + 1) (by omega) (by omega), o (base + 2) (by omega) (by omega)]
  have he2 : 0 ≤ e ∧ e < 4294967296 := by rw [← he]; exact eb
  have s1 : (b.extract 0 112).size ≤ 112 := by rw [ByteArray.size_extract]; omega
  have s2 : (b.extract 112 224).size ≤ 112 := by rw [ByteArray.size_extract]; omega
  refine ⟨fun q a c hv => ?_, fun e' i' b' hj' => h.j e' i' b' (hJ ▸ hj'), fun k k0 k1 hk => ?_⟩
  · rcases hm' q a c with x | ⟨s, m, x⟩ | ⟨_, x⟩
    · rw [x] at hv ⊢; exact h.fine q a c hv
    · rw [x]
      rcases mem_two.1 m with ⟨_, y⟩ | ⟨_, y⟩
      · rw [y, ep_sec he2 (by omega) s1]; omega
      · rw [y, ep_sec he2 (by omega) s2]; omega
    · rw [x] at hv; exact absurd hv not_nought
  · rw [hJ] at hk
    have hki : k ≠ i := fun x => by subst x; exact hk e b hj
    have o : ∀ q, q = hm base k ∨ q = hm base k + 1 → D q = C q := fun q a => hm'.off (by unfold hm at a; omega) (by unfold hm at a; omega) (fun s m => by unfold hm at a; rcases mem_two.1 m with m | m <;> (have := m.1; unfold hm at this; omega))
    rw [o _ (.inl rfl), o _ (.inr rfl)]
    exact h.page k k0 k1 hk
/-- Homes that are written whole. -/
theorem good_homes {C D : Int → ByteArray} {base n T : Int} {want : Int → Int × ByteArray} (h : Inv C base n T want) {e i : Int} {b : ByteArray} (hj : J C base n = some (e, i, b)) (hT : T ≤ 4294967296) (hn : 0 ≤ n ∧ n ≤ 8)
    (hD : ∀ q, base ≤ q → q < base + (3 + 2 * n) → D q = if q = hm base i then secS e (2 * i) (b.extract 0 112) else if q = hm base i + 1 then secS e (2 * i + 1) (b.extract 112 224) else C q) : Good D base n T want := by
  obtain ⟨vh, he, hi, v0, e0, v1, e1, hb, hb2, _⟩ := jour_some hj
  have eb := (unpack_lt (C (base + 2))).1
  have he2 : 0 ≤ e ∧ e < 4294967296 := by rw [← he]; exact eb
  refine ⟨inv_homes h hj hT hn (fun q a c => ?_), fun k k0 k1 => ?_⟩
  · rw [hD q a c]
    by_cases x : q = hm base i
    · rw [if_pos x]; exact .inr (.inl ⟨_, mem_two.2 (.inl ⟨x, rfl⟩), rfl⟩)
    · rw [if_neg x]
      by_cases y : q = hm base i + 1
      · rw [if_pos y]; exact .inr (.inl ⟨_, mem_two.2 (.inr ⟨y, rfl⟩), rfl⟩)
      · rw [if_neg y]; exact .inl rfl
  · by_cases x : k = i
    · subst x
      refine .inr ⟨e, b, he2, h.j e k b hj, ?_, ?_⟩
      · rw [hD _ (by unfold hm; omega) (by unfold hm; omega), if_pos rfl]
      · rw [hD _ (by unfold hm; omega) (by unfold hm; omega), if_neg (by omega), if_pos rfl]
    · rw [hD _ (by unfold hm; omega) (by unfold hm; omega), hD _ (by unfold hm; omega) (by unfold hm; omega), if_neg (by unfold hm; omega), if_neg (by unfold hm; omega), if_neg (by unfold hm; omega), if_neg (by unfold hm; omega)]
      refine h.page k k0 k1 (fun e' b' hx => ?_)
      rw [hj] at hx
      injection hx with hx; injection hx with h1 hx; injection hx with h2 h3
      exact x h2.symm
theorem Inv.next {C : Int → ByteArray} {base n T T2 : Int} {want : Int → Int × ByteArray} (h : Inv C base n T want) (hT : T ≤ T2) : Inv C base n T2 want := ⟨fun q a b v => Int.lt_of_lt_of_le (h.fine q a b v) hT, h.j, h.page⟩
theorem Good.next {C : Int → ByteArray} {base n T T2 : Int} {want : Int → Int × ByteArray} (h : Good C base n T want) (hT : T ≤ T2) : Good C base n T2 want := ⟨h.inv.next hT, h.all⟩
def up (want : Int → Int × ByteArray) (i : Int) (p : Int × ByteArray) : Int → Int × ByteArray := fun k => if k = i then p else want k
theorem byte1_bt {i : Int} (h : 0 ≤ i ∧ i < 256) : bt (byte1 i) 0 = i := by
  unfold byte1
  rw [show i % 256 = i by omega]
  unfold bt
  have hz : (0 : Int).toNat < (strOfNums [i]).size := by rw [strOfNums_size]; exact Nat.one_pos
  rw [dif_pos hz]
  show (((UInt8.ofNat i.toNat).toNat : Nat) : Int) = i
  rw [UInt8.toNat_ofNat']
  omega
/-- The head is written, or not: the new page, or the old one. -/
theorem inv_head {C D : Int → ByteArray} {base n T : Int} {want : Int → Int × ByteArray} (hT : 0 ≤ T ∧ T < 4294967296) (hn : 0 ≤ n ∧ n ≤ 8) {i : Int} (hi : 0 ≤ i ∧ i < n) {p : Int × ByteArray} {b : ByteArray} (hp : Packed b p)
    (hf : ∀ q, base ≤ q → q < base + (3 + 2 * n) → valid (C q) → ep (C q) ≤ T) (hh : valid (C (base + 2)) → ep (C (base + 2)) < T) (ha : ∀ k, 0 ≤ k → k < n → PageOk (C (hm base k)) (C (hm base k + 1)) k (want k))
    (h0 : C base = secS T 0 (b.extract 0 112)) (h1 : C (base + 1) = secS T 1 (b.extract 112 224))
    (hm' : Mix base (base + (3 + 2 * n)) C [(base + 2, secS T 2 (byte1 i))] D) : (D (base + 2) = secS T 2 (byte1 i) → Inv D base n (T + 1) (up want i p) ∧ J D base n = some (T, i, b)) ∧ (D (base + 2) ≠ secS T 2 (byte1 i) → Good D base n (T + 1) want) := by
  have o : ∀ q, base ≤ q → q < base + (3 + 2 * n) → q ≠ base + 2 → D q = C q := fun q a c x => hm'.off a c (fun s m => by have := (mem_sing.1 m).1; omega)
  have x2 := hm'.at (q := base + 2) (x := secS T 2 (byte1 i)) (by omega) (by omega) (fun s m => (mem_sing.1 m).2)
  have sz := hp.size
  have s1 : (b.extract 0 112).size = 112 := by rw [ByteArray.size_extract]; omega
  have s2 : (b.extract 112 224).size = 112 := by rw [ByteArray.size_extract]; omega
  have s3 : (byte1 i).size ≤ 112 := by rw [byte1_size]; decide
  have u0 := u_sec T 0 (b.extract 0 112) hT (by decide) (by omega)
  have u1 := u_sec T 1 (b.extract 112 224) hT (by decide) (by omega)
  have u2 := u_sec T 2 (byte1 i) hT (by decide) s3
  have d0 : D base = secS T 0 (b.extract 0 112) := by rw [o base (by omega) (by omega) (by omega), h0]
  have d1 : D (base + 1) = secS T 1 (b.extract 112 224) := by rw [o (base + 1) (by omega) (by omega) (by omega), h1]
  have pg : ∀ k, 0 ≤ k → k < n → PageOk (D (hm base k)) (D (hm base k + 1)) k (want k) := fun k k0 k1 => by
    rw [o _ (by unfold hm; omega) (by unfold hm; omega) (by unfold hm; omega), o _ (by unfold hm; omega) (by unfold hm; omega) (by unfold hm; omega)]
    exact ha k k0 k1
  have fine : ∀ q, base ≤ q → q < base + (3 + 2 * n) → valid (D q) → ep (D q) < T + 1 := fun q a c v => by
    by_cases e : q = base + 2
    · subst e
      rcases x2 with y | y | y
      · rw [y] at v ⊢; have := hf _ a c v; omega
      · rw [y]; show (X12.unpackF _).1 < T + 1; rw [u2]; show T < T + 1; omega
      · rw [y] at v; exact absurd v not_nought
    · rw [o q a c e] at v ⊢; have := hf q a c v; omega
  have old : J D base n = none → Good D base n (T + 1) want := fun x => ⟨⟨fine, fun e i b h => absurd (x.symm.trans h) (fun z => by cases z), fun k k0 k1 _ => pg k k0 k1⟩, pg⟩
  constructor
  · intro y
    have hJ : J D base n = some (T, i, b) := by
      show jour n (D base) (D (base + 1)) (D (base + 2)) = _
      rw [d0, d1, y]
      unfold jour
      have hh : hd n (secS T 2 (byte1 i)) = some (T, i) := by
        unfold hd
        rw [if_pos ⟨by unfold valid; rw [u2], by show (X12.unpackF _).2.1 = 2; rw [u2], by show (X12.unpackF _).2.2.1.size = 1; rw [u2]; exact byte1_size i, by show bt (X12.unpackF _).2.2.1 0 < n; rw [u2]; show bt (byte1 i) 0 < n; rw [byte1_bt (by omega)]; exact hi.2⟩]
        show some ((X12.unpackF _).1, bt (X12.unpackF _).2.2.1 0) = _
        rw [u2]
        show some (T, bt (byte1 i) 0) = _
        rw [byte1_bt (by omega)]
      have p0 : part T 0 (secS T 0 (b.extract 0 112)) = some (b.extract 0 112) := by
        unfold part
        rw [if_pos ⟨by unfold valid; rw [u0], by show (X12.unpackF _).2.1 = 0; rw [u0], by show (X12.unpackF _).1 = T; rw [u0], by show (X12.unpackF _).2.2.1.size = 112; rw [u0]; exact s1⟩]
        show some (X12.unpackF _).2.2.1 = _
        rw [u0]
      have p1 : part T 1 (secS T 1 (b.extract 112 224)) = some (b.extract 112 224) := by
        unfold part
        rw [if_pos ⟨by unfold valid; rw [u1], by show (X12.unpackF _).2.1 = 1; rw [u1], by show (X12.unpackF _).1 = T; rw [u1], by show (X12.unpackF _).2.2.1.size = 112; rw [u1]; exact s2⟩]
        show some (X12.unpackF _).2.2.1 = _
        rw [u1]
      rw [hh]
      simp only [p0, p1]
      have cat : b.extract 0 112 ++ b.extract 112 224 = b := by
        rw [ByteArray.extract_append_extract]
        have e : b.size = 224 := sz
        rw [show min 0 112 = 0 by decide, show max 112 224 = b.size by rw [e]; decide]
        exact ByteArray.extract_zero_size
      rw [cat]
    refine ⟨⟨fine, fun e i' b' h => ?_, fun k k0 k1 hk => ?_⟩, hJ⟩
    · have e := Prod.mk.inj (Prod.mk.inj (Option.some.inj (hJ.symm.trans h))).2
      rw [← e.1, ← e.2]
      unfold up; rw [if_pos rfl]; exact hp
    · have hki : k ≠ i := fun x => by subst x; exact hk T b hJ
      unfold up; rw [if_neg hki]; exact pg k k0 k1
  · intro hne
    rcases x2 with y | y | y
    · refine old ?_
      by_cases hc : J D base n = none
      · exact hc
      · obtain ⟨⟨e, i', b'⟩, hx⟩ := Option.ne_none_iff_exists'.1 hc
        obtain ⟨vh, he, _, v0, e0, _⟩ := jour_some hx
        rw [y] at vh he
        have := hh vh
        rw [d0] at e0
        have : (X12.unpackF (secS T 0 (b.extract 0 112))).1 = e := e0
        rw [u0] at this
        have : T = e := this
        omega
    · exact absurd y hne
    · refine old ?_
      by_cases hc : J D base n = none
      · exact hc
      · obtain ⟨⟨e, i', b'⟩, hx⟩ := Option.ne_none_iff_exists'.1 hc
        obtain ⟨vh, _⟩ := jour_some hx
        rw [y] at vh
        exact absurd vh not_nought
end Go.Proofs.Ytneilimiijcghaa.St
namespace Go.Proofs.Ytneilimiijcghaa.St
open Go Go.RowKit Go.ChangeMaps Go.Proofs.YtneilimiijcghaaW.PrintWords Go.Proofs.Ytneilimiijcghaa.Arr Go.Proofs.Ytneilimiijcghaa.Mp Go.Proofs.Ytneilimiijcghaa.Ow Go.Proofs.Ytneilimiijcghaa.Dk Go.Proofs.Ytneilimiijcghaa.Cr
set_option linter.unusedVariables false
set_option linter.unusedSimpArgs false
theorem last_one (p : Int) (s : ByteArray) (q : Int) : lastOf [(p, s)] q = if q = p then some s else none := by simp [lastOf]
theorem last_two (p : Int) (s0 s1 : ByteArray) (q : Int) : lastOf (two p s0 s1) q = if q = p + 1 then some s1 else if q = p then some s0 else none := by simp [lastOf]
def put1 (S : List ByteArray) (p : Int) (s : ByteArray) : List ByteArray := overF (lastOf [(p, s)]) S
def put2 (S : List ByteArray) (p : Int) (s0 s1 : ByteArray) : List ByteArray := overF (lastOf (two p s0 s1)) S
theorem put1_len (S : List ByteArray) (p : Int) (s : ByteArray) : (put1 S p s).length = S.length := over_len _ _
theorem put2_len (S : List ByteArray) (p : Int) (s0 s1 : ByteArray) : (put2 S p s0 s1).length = S.length := over_len _ _
theorem put1_cut (S : List ByteArray) (p : Int) (s : ByteArray) (q : Int) (h0 : 0 ≤ q) (h1 : q < S.length) : cut (put1 S p s) q = if q = p then s else cut S q := by
  unfold put1
  rw [cut_over _ _ _ h0 h1, last_one]
  split <;> rfl
theorem put2_cut (S : List ByteArray) (p : Int) (s0 s1 : ByteArray) (q : Int) (h0 : 0 ≤ q) (h1 : q < S.length) : cut (put2 S p s0 s1) q = if q = p then s0 else if q = p + 1 then s1 else cut S q := by
  unfold put2
  rw [cut_over _ _ _ h0 h1, last_two]
  by_cases a : q = p
  · rw [if_pos a, if_neg (by omega), if_pos a]; rfl
  · by_cases b : q = p + 1
    · rw [if_pos b, if_neg a, if_pos b]; rfl
    · rw [if_neg b, if_neg a, if_neg a, if_neg b]; rfl
theorem both_run {S : List ByteArray} {d : DS} (h : Mid S [] d) {p index t : Int} {b : ByteArray} (hp : 0 ≤ p ∧ p + 1 < S.length) (ht : 0 ≤ t ∧ t < 4294967296) (hi : 0 ≤ index ∧ index < 4294967290) :
    ((bothS p index t b d).1 = 0 ∧ Mid (put2 S p (secS t index (b.extract 0 112)) (secS t (index + 1) (b.extract 112 224))) [] (bothS p index t b d).2) ∨
    ((bothS p index t b d).1 = 4 ∧ Ded S (two p (secS t index (b.extract 0 112)) (secS t (index + 1) (b.extract 112 224))) (bothS p index t b d).2) := by
  have z1 : (b.extract 0 112).size ≤ 112 := by rw [ByteArray.size_extract]; omega
  have z2 : (b.extract 112 224).size ≤ 112 := by rw [ByteArray.size_extract]; omega
  have k1 := secS_size t index (b.extract 0 112) ht (by omega) z1
  have k2 := secS_size t (index + 1) (b.extract 112 224) ht (by omega) z2
  unfold bothS
  rcases mid_write h (p := p) (s := secS t index (b.extract 0 112)) hp.1 (by omega) k1 with ⟨e1, m1⟩ | ⟨e1, m1⟩
  · rw [then_some (show (putS p index t (b.extract 0 112) d).1 = 0 from e1)]
    rcases mid_write m1 (p := p + 1) (s := secS t (index + 1) (b.extract 112 224)) (by omega) hp.2 k2 with ⟨e2, m2⟩ | ⟨e2, m2⟩
    · rw [then_some (show (putS (p + 1) (index + 1) t (b.extract 112 224) (putS p index t (b.extract 0 112) d).2).1 = 0 from e2)]
      rcases mid_sync m2 with ⟨e3, m3⟩ | ⟨e3, m3⟩
      · exact .inl ⟨e3, m3⟩
      · exact .inr ⟨e3, m3⟩
    · rw [then_none (show (putS (p + 1) (index + 1) t (b.extract 112 224) (putS p index t (b.extract 0 112) d).2).1 ≠ 0 from fun z => by have : (4 : Int) = 0 := e2.symm.trans z; omega)]
      exact .inr ⟨e2, m2.mono (fun q m => by simp at m; subst m; simp [two])⟩
  · rw [then_none (show (putS p index t (b.extract 0 112) d).1 ≠ 0 from fun z => by have : (4 : Int) = 0 := e1.symm.trans z; omega)]
    exact .inr ⟨e1, m1.mono (fun q m => by cases m)⟩
theorem both_free {d : DS} (hg : d.gone = false) (hf : d.fuse = -1) (p index t : Int) (b : ByteArray) : (bothS p index t b d).1 ≠ 4 ∧ (bothS p index t b d).2.gone = false ∧ (bothS p index t b d).2.fuse = -1 := by
  unfold bothS
  obtain ⟨a1, a2, a3⟩ := free_write hg hf p (secS t index (b.extract 0 112))
  by_cases e1 : (putS p index t (b.extract 0 112) d).1 = 0
  · rw [then_some e1]
    obtain ⟨b1, b2, b3⟩ := free_write a2 a3 (p + 1) (secS t (index + 1) (b.extract 112 224))
    by_cases e2 : (putS (p + 1) (index + 1) t (b.extract 112 224) (putS p index t (b.extract 0 112) d).2).1 = 0
    · rw [then_some e2]
      obtain ⟨c1, c2, c3⟩ := free_sync b2 b3
      exact ⟨by show syncE _ ≠ 4; rw [show syncE (putS (p + 1) (index + 1) t (b.extract 112 224) (putS p index t (b.extract 0 112) d).2).2 = 0 from c1]; decide, c2, c3⟩
    · rw [then_none e2]
      exact ⟨b1, b2, b3⟩
  · rw [then_none e1]
    exact ⟨a1, a2, a3⟩
theorem jour_free {d : DS} (hg : d.gone = false) (hf : d.fuse = -1) (base t i : Int) (b : ByteArray) : (jourS base t i b d).1 ≠ 4 ∧ (jourS base t i b d).2.gone = false ∧ (jourS base t i b d).2.fuse = -1 := by
  unfold jourS
  obtain ⟨a1, a2, a3⟩ := both_free hg hf base 0 t b
  by_cases e1 : (bothS base 0 t b d).1 = 0
  · rw [then_some e1]
    obtain ⟨b1, b2, b3⟩ := free_write a2 a3 (base + 2) (secS t 2 (byte1 i))
    by_cases e2 : (putS (base + 2) 2 t (byte1 i) (bothS base 0 t b d).2).1 = 0
    · rw [then_some e2]
      obtain ⟨c1, c2, c3⟩ := free_sync b2 b3
      rw [then_some (show (syS (putS (base + 2) 2 t (byte1 i) (bothS base 0 t b d).2).2).1 = 0 from c1)]
      exact both_free c2 c3 _ _ _ _
    · rw [then_none e2]
      exact ⟨b1, b2, b3⟩
  · rw [then_none e1]
    exact ⟨a1, a2, a3⟩
theorem cut_nn {b : ByteArray} (h : b.size = 224) : (b.extract 0 112).size = 112 ∧ (b.extract 112 224).size = 112 := by
  rw [ByteArray.size_extract, ByteArray.size_extract]
  omega
/-- What Write leaves of its sectors. -/
def wrote (S : List ByteArray) (base t i : Int) (b : ByteArray) : List ByteArray :=
  put2 (put1 (put2 S base (secS t 0 (b.extract 0 112)) (secS t 1 (b.extract 112 224))) (base + 2) (secS t 2 (byte1 i))) (hm base i) (secS t (2 * i) (b.extract 0 112)) (secS t (2 * i + 1) (b.extract 112 224))
theorem wrote_len (S : List ByteArray) (base t i : Int) (b : ByteArray) : (wrote S base t i b).length = S.length := by unfold wrote; rw [put2_len, put1_len, put2_len]
/-- A store over a disk: where it lies. -/
structure Lies (S : List ByteArray) (base n : Int) : Prop where
  b0 : 0 ≤ base
  n0 : 0 ≤ n ∧ n ≤ 8
  hi : base + (3 + 2 * n) ≤ S.length
theorem Lies.len {S T : List ByteArray} {base n : Int} (h : Lies S base n) (e : T.length = S.length) : Lies T base n := ⟨h.b0, h.n0, by rw [e]; exact h.hi⟩
/-- The journal, in its three parts. -/
theorem jour_run {S : List ByteArray} {d : DS} (h : Mid S [] d) {base n t i : Int} {b : ByteArray} (hl : Lies S base n) (hi : 0 ≤ i ∧ i < n) (ht : 0 ≤ t ∧ t < 4294967296) :
    ((jourS base t i b d).1 = 0 ∧ Mid (wrote S base t i b) [] (jourS base t i b d).2) ∨
    ((jourS base t i b d).1 = 4 ∧ (Ded S (two base (secS t 0 (b.extract 0 112)) (secS t 1 (b.extract 112 224))) (jourS base t i b d).2 ∨
      Ded (put2 S base (secS t 0 (b.extract 0 112)) (secS t 1 (b.extract 112 224))) [(base + 2, secS t 2 (byte1 i))] (jourS base t i b d).2 ∨
      Ded (put1 (put2 S base (secS t 0 (b.extract 0 112)) (secS t 1 (b.extract 112 224))) (base + 2) (secS t 2 (byte1 i))) (two (hm base i) (secS t (2 * i) (b.extract 0 112)) (secS t (2 * i + 1) (b.extract 112 224))) (jourS base t i b d).2)) := by
  have := hl.b0; have := hl.n0; have := hl.hi
  have ne4 : ∀ {x : Int}, x = 4 → x ≠ 0 := fun e => by omega
  unfold jourS
  rcases both_run h (p := base) (index := 0) (t := t) (b := b) (by omega) ht (by omega) with ⟨e1, m1⟩ | ⟨e1, m1⟩
  · rw [then_some e1]
    have k2 := secS_size t 2 (byte1 i) ht (by decide) (by rw [byte1_size]; decide)
    rcases mid_write m1 (p := base + 2) (s := secS t 2 (byte1 i)) (by omega) (by rw [put2_len]; omega) k2 with ⟨e2, m2⟩ | ⟨e2, m2⟩
    · rw [then_some (show (putS (base + 2) 2 t (byte1 i) (bothS base 0 t b d).2).1 = 0 from e2)]
      rcases mid_sync m2 with ⟨e3, m3⟩ | ⟨e3, m3⟩
      · rw [then_some (show (syS (putS (base + 2) 2 t (byte1 i) (bothS base 0 t b d).2).2).1 = 0 from e3)]
        rcases both_run m3 (p := hm base i) (index := 2 * i) (t := t) (b := b) (by rw [over_len, put2_len]; unfold hm; omega) ht (by omega) with ⟨e4, m4⟩ | ⟨e4, m4⟩
        · exact .inl ⟨e4, m4⟩
        · exact .inr ⟨e4, .inr (.inr m4)⟩
      · rw [then_none (show (syS (putS (base + 2) 2 t (byte1 i) (bothS base 0 t b d).2).2).1 ≠ 0 from ne4 e3)]
        exact .inr ⟨e3, .inr (.inl m3)⟩
    · rw [then_none (show (putS (base + 2) 2 t (byte1 i) (bothS base 0 t b d).2).1 ≠ 0 from ne4 e2)]
      exact .inr ⟨e2, .inr (.inl (m2.mono fun q m => by cases m))⟩
  · rw [then_none (ne4 e1)]
    exact .inr ⟨e1, .inl m1⟩
/-- The store behind the copies. -/
theorem copied {S : List ByteArray} {base n T : Int} {want : Int → Int × ByteArray} (hl : Lies S base n) (h : Good (cut S) base n T want) {b0 b1 : ByteArray} :
    ∀ q, base ≤ q → q < base + (3 + 2 * n) → cut (put2 S base b0 b1) q = if q = base then b0 else if q = base + 1 then b1 else cut S q := fun q a c => put2_cut _ _ _ _ _ (by have := hl.b0; omega) (by have := hl.hi; omega)
theorem behind_copies {S : List ByteArray} {base n T : Int} {want : Int → Int × ByteArray} (hl : Lies S base n) (h : Good (cut S) base n T want) (hT : 0 ≤ T ∧ T < 4294967296) {b : ByteArray} {i : Int} (hi : 0 ≤ i ∧ i < n) {p : Int × ByteArray} (hp : Packed b p) {D : Int → ByteArray}
    (hm' : Mix base (base + (3 + 2 * n)) (cut (put2 S base (secS T 0 (b.extract 0 112)) (secS T 1 (b.extract 112 224)))) [(base + 2, secS T 2 (byte1 i))] D) :
    (D (base + 2) = secS T 2 (byte1 i) → Inv D base n (T + 1) (up want i p) ∧ J D base n = some (T, i, b)) ∧ (D (base + 2) ≠ secS T 2 (byte1 i) → Good D base n (T + 1) want) := by
  have c := copied hl h (b0 := secS T 0 (b.extract 0 112)) (b1 := secS T 1 (b.extract 112 224))
  have hn := hl.n0
  have z := cut_nn hp.size
  refine inv_head hT hn hi hp ?_ ?_ ?_ ?_ ?_ hm'
  · intro q a e v
    rw [c q a e] at v ⊢
    split at v
    · rename_i x
      rw [if_pos x, ep_sec hT (by decide) (by omega)]
      exact Int.le_refl _
    · rename_i x
      rw [if_neg x]
      split at v
      · rename_i y
        rw [if_pos y, ep_sec hT (by decide) (by omega)]
        exact Int.le_refl _
      · rename_i y
        rw [if_neg y]
        exact Int.le_of_lt (h.inv.fine q a e v)
  · intro v
    rw [c _ (by omega) (by omega), if_neg (by omega), if_neg (by omega)] at v ⊢
    exact h.inv.fine _ (by omega) (by omega) v
  · intro k k0 k1
    rw [c _ (by unfold hm; omega) (by unfold hm; omega), c _ (by unfold hm; omega) (by unfold hm; omega), if_neg (by unfold hm; omega), if_neg (by unfold hm; omega), if_neg (by unfold hm; omega), if_neg (by unfold hm; omega)]
    exact h.all k k0 k1
  · rw [c _ (by omega) (by omega), if_pos rfl]
  · rw [c _ (by omega) (by omega), if_neg (by omega), if_pos rfl]
/-- A write's head is there. -/
theorem head_there {S : List ByteArray} {base n T : Int} {want : Int → Int × ByteArray} (hl : Lies S base n) (h : Good (cut S) base n T want) (hT : 0 ≤ T ∧ T < 4294967296) {b : ByteArray} {i : Int} (hi : 0 ≤ i ∧ i < n) {p : Int × ByteArray} (hp : Packed b p) {R : List ByteArray}
    (hR : R = put1 (put2 S base (secS T 0 (b.extract 0 112)) (secS T 1 (b.extract 112 224))) (base + 2) (secS T 2 (byte1 i))) : Inv (cut R) base n (T + 1) (up want i p) ∧ J (cut R) base n = some (T, i, b) := by
  have h0 := hl.b0; have hh := hl.hi; have hn := hl.n0
  have e : ∀ q, base ≤ q → q < base + (3 + 2 * n) → cut R q = if q = base + 2 then secS T 2 (byte1 i) else cut (put2 S base (secS T 0 (b.extract 0 112)) (secS T 1 (b.extract 112 224))) q := fun q a c => by rw [hR]; exact put1_cut _ _ _ _ (by omega) (by rw [put2_len]; omega)
  refine (behind_copies hl h hT hi hp (D := cut R) (fun q a c => ?_)).1 (by rw [e _ (by omega) (by omega), if_pos rfl])
  rw [e q a c]
  by_cases x : q = base + 2
  · rw [if_pos x]; exact .inr (.inl ⟨_, mem_sing.2 ⟨x, rfl⟩, rfl⟩)
  · rw [if_neg x]; exact .inl rfl
/-- A write that is borne: the store has the new page. -/
theorem write_good {S : List ByteArray} {base n T : Int} {want : Int → Int × ByteArray} (hl : Lies S base n) (h : Good (cut S) base n T want) (hT : 0 ≤ T ∧ T < 4294967295) {b : ByteArray} {i : Int} (hi : 0 ≤ i ∧ i < n) {p : Int × ByteArray} (hp : Packed b p) :
    Good (cut (wrote S base T i b)) base n (T + 1) (up want i p) ∧ cut (wrote S base T i b) (base + 2) = secS T 2 (byte1 i) := by
  have h0 := hl.b0; have hh := hl.hi; have hn := hl.n0
  obtain ⟨g1, g2⟩ := head_there hl h ⟨hT.1, by omega⟩ hi hp rfl
  have e : ∀ q, base ≤ q → q < base + (3 + 2 * n) → cut (wrote S base T i b) q = if q = hm base i then secS T (2 * i) (b.extract 0 112) else if q = hm base i + 1 then secS T (2 * i + 1) (b.extract 112 224) else cut (put1 (put2 S base (secS T 0 (b.extract 0 112)) (secS T 1 (b.extract 112 224))) (base + 2) (secS T 2 (byte1 i))) q := fun q a c => by
    unfold wrote
    exact put2_cut _ _ _ _ _ (by omega) (by rw [put1_len, put2_len]; omega)
  refine ⟨good_homes g1 g2 (by omega) hn e, ?_⟩
  rw [e _ (by omega) (by omega), if_neg (by unfold hm; omega), if_neg (by unfold hm; omega), put1_cut _ _ _ _ (by omega) (by rw [put2_len]; omega), if_pos rfl]
theorem storeW_eq {base n T i : Int} {b : ByteArray} {p : Int × ByteArray} (hi : 0 ≤ i ∧ i < n) (hp : Packed b p) (d : DS) : storeW base n T i p.1 p.2 d = ((jourS base T i b d).1, T + 1, (jourS base T i b d).2) := by
  unfold storeW
  rw [if_neg (by omega), hp, if_neg (fun h => h rfl)]
/-- Write, without a fuse. -/
theorem write_free {S : List ByteArray} {d : DS} (h : Mid S [] d) (hf : d.fuse = -1) {base n T i : Int} {want : Int → Int × ByteArray} (hl : Lies S base n) (hG : Good (cut S) base n T want) (hT : 0 ≤ T ∧ T < 4294967295) {b : ByteArray} (hi : 0 ≤ i ∧ i < n) {p : Int × ByteArray} (hp : Packed b p) :
    (storeW base n T i p.1 p.2 d).1 = 0 ∧ (storeW base n T i p.1 p.2 d).2.1 = T + 1 ∧ Mid (wrote S base T i b) [] (storeW base n T i p.1 p.2 d).2.2 ∧ (storeW base n T i p.1 p.2 d).2.2.fuse = -1 := by
  rw [storeW_eq hi hp d]
  obtain ⟨f1, f2, f3⟩ := jour_free h.2.2 hf base T i b
  rcases jour_run h (t := T) (b := b) hl hi (by omega) with ⟨e, m⟩ | ⟨e, _⟩
  · exact ⟨e, rfl, m, f3⟩
  · exact absurd e f1
theorem ite_iff {α : Type} {p q : Prop} {_ : Decidable p} {_ : Decidable q} (h : p ↔ q) (a b : α) : (if p then a else b) = (if q then a else b) := by
  by_cases x : p
  · rw [if_pos x, if_pos (h.1 x)]
  · rw [if_neg x, if_neg (fun y => x (h.2 y))]
theorem ix_sec {t i : Int} {b : ByteArray} (ht : 0 ≤ t ∧ t < 4294967296) (hi : 0 ≤ i ∧ i < 4294967296) (hb : b.size ≤ 112) : ix (secS t i b) = i := by unfold ix; rw [u_sec t i b ht hi hb]
theorem bd_sec {t i : Int} {b : ByteArray} (ht : 0 ≤ t ∧ t < 4294967296) (hi : 0 ≤ i ∧ i < 4294967296) (hb : b.size ≤ 112) : bd (secS t i b) = b := by unfold bd; rw [u_sec t i b ht hi hb]
/-- Slabs of a quiet disk. -/
theorem sread_quiet {S : List ByteArray} {d : DS} (h : Mid S [] d) {p : Int} (h0 : 0 ≤ p) (h1 : p < S.length) (k : Int) : sreadF d p k = (ep (cut S p), ix (cut S p), bd (cut S p), (X12.unpackF (cut S p)).2.2.2 == 0 && ix (cut S p) == k) := by
  unfold sreadF
  rw [quiet_readE h h0 h1, if_neg (by decide), quiet_readS h h0 h1]
theorem and_iff {s : ByteArray} {k : Int} : ((X12.unpackF s).2.2.2 == 0 && ix s == k) = true ↔ valid s ∧ ix s = k := by
  rw [Bool.and_eq_true, beq_iff_eq, beq_iff_eq]
  rfl
theorem repair_eq {S : List ByteArray} {d : DS} (h : Mid S [] d) {base n : Int} (hl : Lies S base n) : repairS base n d = match J (cut S) base n with
    | none => (0, d)
    | some x => bothS (hm base x.2.1) (2 * x.2.1) x.1 x.2.2 d := by
  have h0 := hl.b0; have hh := hl.hi; have hn := hl.n0
  have eh : headF d base n = hd n (cut S (base + 2)) := by
    unfold headF hd
    rw [sread_quiet h (p := base + 2) (by omega) (by omega)]
    refine ite_iff ?_ _ _
    rw [and_iff, and_assoc]
  have epp : ∀ e k, 0 ≤ k → k ≤ 1 → partF d base e k = part e k (cut S (base + k)) := fun e k k0 k1 => by
    unfold partF part
    rw [sread_quiet h (p := base + k) (by omega) (by omega)]
    refine ite_iff ?_ _ _
    rw [and_iff, and_assoc]
  unfold repairS J jour
  rw [eh]
  cases e1 : hd n (cut S (base + 2)) with
  | none => rfl
  | some x =>
    simp only
    rw [epp _ 0 (by decide) (by decide), Int.add_zero]
    cases e2 : part x.1 0 (cut S base) with
    | none => rfl
    | some a =>
      simp only
      rw [epp _ 1 (by decide) (by decide)]
      cases e3 : part x.1 1 (cut S (base + 1)) with
      | none => rfl
      | some c => rfl
theorem latest_le {S : List ByteArray} {d : DS} (h : Mid S [] d) {base : Int} (h0 : 0 ≤ base) : ∀ (m : Nat), base + m ≤ S.length → ∀ q, base ≤ q → q < base + m → valid (cut S q) → ep (cut S q) ≤ latestF d base m := by
  intro m
  induction m with
  | zero => intro _ q a c; exact absurd c (by omega)
  | succ m ih =>
    intro hm q a c v
    have ih := ih (by omega)
    unfold latestF
    rw [quiet_readS h (p := base + m) (by omega) (by omega)]
    by_cases e : q = base + m
    · subst e
      rw [if_pos (show (X12.unpackF _).2.2.2 = 0 from v)]
      split
      · exact Int.le_refl _
      · show (X12.unpackF (cut S (base + m))).1 ≤ _
        omega
    · have := ih q a (by omega) v
      split
      · split <;> omega
      · exact this
theorem latest_bound {S : List ByteArray} {d : DS} (h : Mid S [] d) {base : Int} (h0 : 0 ≤ base) {T : Int} (hT : 1 ≤ T) : ∀ (m : Nat), base + m ≤ S.length → (∀ q, base ≤ q → q < base + m → valid (cut S q) → ep (cut S q) < T) → latestF d base m < T := by
  intro m
  induction m with
  | zero => intro _ _; unfold latestF; omega
  | succ m ih =>
    intro hm hf
    have ih := ih (by omega) (fun q a c v => hf q a (by omega) v)
    unfold latestF
    rw [quiet_readS h (p := base + m) (by omega) (by omega)]
    split
    · rename_i v
      have := hf (base + m) (by omega) (by omega) v
      split
      · exact this
      · exact ih
    · exact ih
theorem secN_eq {n : Int} (h : 0 ≤ n) : ((secN n : Nat) : Int) = 3 + 2 * n := by unfold secN; omega
/-- Open, without a fuse. -/
theorem open_free {S : List ByteArray} {d : DS} (h : Mid S [] d) (hf : d.fuse = -1) {base n T : Int} {want : Int → Int × ByteArray} (hl : Lies S base n) (hI : Inv (cut S) base n T want) (hT : 1 ≤ T ∧ T < 4294967295) :
    (repairS base n d).1 = 0 ∧ ∃ S', Mid S' [] (repairS base n d).2 ∧ (repairS base n d).2.fuse = -1 ∧ S'.length = S.length ∧ Good (cut S') base n (latestF d base (secN n) + 1) want ∧ latestF d base (secN n) < T := by
  have h0 := hl.b0; have hh := hl.hi; have hn := hl.n0
  have hs := secN_eq hn.1
  have lb := latest_bound h h0 hT.1 (secN n) (by rw [hs]; exact hh) (fun q a c v => hI.fine q a (by rw [hs] at c; exact c) v)
  have hI2 : Inv (cut S) base n (latestF d base (secN n) + 1) want := ⟨fun q a c v => by have := latest_le h h0 (secN n) (by rw [hs]; exact hh) q a (by rw [hs]; exact c) v; omega, hI.j, hI.page⟩
  rw [repair_eq h hl]
  cases hj : J (cut S) base n with
  | none => exact ⟨rfl, S, h, hf, rfl, good_of hI2 hj, lb⟩
  | some x =>
    obtain ⟨e, i, b⟩ := x
    obtain ⟨vh, he, hi, _⟩ := jour_some hj
    have he2 := (unpack_lt (cut S (base + 2))).1
    rw [show (X12.unpackF (cut S (base + 2))).1 = e from he] at he2
    simp only
    obtain ⟨f1, f2, f3⟩ := both_free h.2.2 hf (hm base i) (2 * i) e b
    rcases both_run h (p := hm base i) (index := 2 * i) (t := e) (b := b) (by unfold hm; omega) he2 (by omega) with ⟨r1, r2⟩ | ⟨r1, _⟩
    · refine ⟨r1, _, r2, f3, put2_len _ _ _ _, good_homes hI2 hj (by omega) hn (fun q a c => put2_cut _ _ _ _ _ (by omega) (by omega)), lb⟩
    · exact absurd r1 f1
/-- What is read of a store that is whole. -/
theorem read_good {S : List ByteArray} {d : DS} (h : Mid S [] d) {base n T k : Int} {want : Int → Int × ByteArray} (hl : Lies S base n) (hG : Good (cut S) base n T want) (hk : 0 ≤ k ∧ k < n) : storeR d base n k = ((want k).1, (want k).2, 0) := by
  have h0 := hl.b0; have hh := hl.hi; have hn := hl.n0
  rw [readP_eq]
  unfold readP
  rw [if_neg (by omega), quiet_readE h (p := base + (3 + 2 * k)) (by omega) (by omega), if_neg (by decide), quiet_readS h (p := base + (3 + 2 * k)) (by omega) (by omega), quiet_readS h (p := base + (3 + 2 * k) + 1) (by omega) (by omega),
    sread_quiet h (p := base + (3 + 2 * k)) (by omega) (by omega), sread_quiet h (p := base + (3 + 2 * k + 1)) (by omega) (by omega), show base + (3 + 2 * k + 1) = base + (3 + 2 * k) + 1 by omega]
  rcases hG.all k hk.1 hk.2 with ⟨e0, e1, ew⟩ | ⟨e, b, he, hp, e0, e1⟩
  · unfold hm at e0 e1
    rw [e0, e1, if_pos ⟨rfl, rfl⟩, ew]
  · unfold hm at e0 e1
    have z := cut_nn hp.size
    have cat : b.extract 0 112 ++ b.extract 112 224 = b := by
      have sz := hp.size
      rw [ByteArray.extract_append_extract]
      rw [show min 0 112 = 0 by decide, show max 112 224 = b.size by rw [sz]; decide]
      exact ByteArray.extract_zero_size
    have hpp : Page.packF (want k).1 (want k).2 = (b, 0) := hp
    have pu := X12.pun_pack (a := (want k).1) (dta := (want k).2) (by rw [hpp])
    rw [hpp] at pu
    have pu2 : X12.punF b = ((want k).1, (want k).2, 0) := pu
    have v0 := sec_valid (i := 2 * k) (b := b.extract 0 112) he (by omega) (by omega)
    have v1 := sec_valid (i := 2 * k + 1) (b := b.extract 112 224) he (by omega) (by omega)
    have i0 := ix_sec (i := 2 * k) (b := b.extract 0 112) he (by omega) (by omega)
    have i1 := ix_sec (i := 2 * k + 1) (b := b.extract 112 224) he (by omega) (by omega)
    have y2 : ep (secS e (2 * k) (b.extract 0 112)) = ep (secS e (2 * k + 1) (b.extract 112 224)) := by rw [ep_sec (i := 2 * k) he (by omega) (by omega), ep_sec (i := 2 * k + 1) he (by omega) (by omega)]
    have b0 := bd_sec (i := 2 * k) (b := b.extract 0 112) he (by omega) (by omega)
    have b1 := bd_sec (i := 2 * k + 1) (b := b.extract 112 224) he (by omega) (by omega)
    have nz := sec_nz (i := 2 * k) (b := b.extract 0 112) he (by omega) (by omega)
    rw [← e0] at v0 i0 y2 b0 nz
    rw [← e1] at v1 i1 y2 b1
    clear e0 e1
    generalize cut S (base + (3 + 2 * k)) = s0 at *
    generalize cut S (base + (3 + 2 * k) + 1) = s1 at *
    rw [if_neg (fun x => nz x.1)]
    have y0 := and_iff.2 ⟨v0, i0⟩
    have y1 := and_iff.2 ⟨v1, i1⟩
    dsimp only
    rw [if_pos (And.intro y0 (And.intro y1 y2)), b0, b1, cat]
    have y3 : (X12.punF b).2.2 = 0 := by rw [pu2]
    rw [if_pos y3, pu2]
/-- A new disk. -/
theorem new_mid (L : Nat) : Mid (List.replicate L (noughts 128)) [] (newD L) := ⟨rfl, rfl, rfl⟩
theorem new_good {L : Nat} {base n : Int} (hl : Lies (List.replicate L (noughts 128)) base n) : Good (cut (List.replicate L (noughts 128))) base n 1 (fun _ => noPage) := by
  have h0 := hl.b0; have hh := hl.hi; have hn := hl.n0
  rw [List.length_replicate] at hh
  have c : ∀ q, 0 ≤ q → q < (L : Int) → cut (List.replicate L (noughts 128)) q = noughts 128 := fun q a b => by
    unfold cut
    rw [List.getElem?_replicate, if_pos (by omega)]
    rfl
  refine good_of ⟨fun q a b v => ?_, fun e i b hj => ?_, fun k k0 k1 _ => .inl ⟨c _ (by unfold hm; omega) (by unfold hm; omega), c _ (by unfold hm; omega) (by unfold hm; omega), rfl⟩⟩ ?_
  · rw [c q (by omega) (by omega)] at v
    exact absurd v not_nought
  · obtain ⟨vh, _⟩ := jour_some hj
    rw [c _ (by omega) (by omega)] at vh
    exact absurd vh not_nought
  · by_cases hc : J (cut (List.replicate L (noughts 128))) base n = none
    · exact hc
    · obtain ⟨⟨e, i', b'⟩, hx⟩ := Option.ne_none_iff_exists'.1 hc
      obtain ⟨vh, _⟩ := jour_some hx
      rw [c _ (by omega) (by omega)] at vh
      exact absurd vh not_nought
end Go.Proofs.Ytneilimiijcghaa.St
namespace Go.Proofs.Ytneilimiijcghaa.St
open Go Go.RowKit Go.ChangeMaps Go.Proofs.YtneilimiijcghaaW.PrintWords Go.Proofs.Ytneilimiijcghaa.Arr Go.Proofs.Ytneilimiijcghaa.Mp Go.Proofs.Ytneilimiijcghaa.Ow Go.Proofs.Ytneilimiijcghaa.Dk Go.Proofs.Ytneilimiijcghaa.Cr
set_option linter.unusedVariables false
set_option linter.unusedSimpArgs false
/-- A store over a quiet disk. -/
def QS (base n T : Int) (want : Int → Int × ByteArray) (d : DS) : Prop := ∃ S, Mid S [] d ∧ d.fuse = -1 ∧ Lies S base n ∧ S.length ≤ 512 ∧ Good (cut S) base n T want
/-- A store behind a crash. -/
def CS (base n T : Int) (want : Int → Int × ByteArray) (d : DS) : Prop := ∃ S, Mid S [] d ∧ d.fuse = -1 ∧ Lies S base n ∧ S.length ≤ 512 ∧ Inv (cut S) base n T want
/-- The last ticket stands in the head. -/
def HT (base T : Int) (d : DS) : Prop := T = 1 ∨ (valid (readS d (base + 2)) ∧ ep (readS d (base + 2)) = T - 1)
section
variable {base n T : Int} {want : Int → Int × ByteArray} {d : DS}
theorem QS.cs (h : QS base n T want d) : CS base n T want d := by
  obtain ⟨S, a, b, c, e, f⟩ := h
  exact ⟨S, a, b, c, e, f.inv⟩
theorem mid_ok {S : List ByteArray} {d : DS} (h : Mid S [] d) (hf : d.fuse = -1) (hl : S.length ≤ 512) : OkN 0 d := ⟨⟨by rw [h.2.1]; decide, by rw [hf]; decide, by rw [hf]; decide, by rw [h.1]; exact hl, by rw [h.2.1]; intro p m; cases m⟩, by rw [h.2.1]; decide⟩
theorem CS.ok (h : CS base n T want d) : OkN 0 d := by
  obtain ⟨S, a, b, c, e, f⟩ := h
  exact mid_ok a b e
theorem QS.ok (h : QS base n T want d) : OkN 0 d := h.cs.ok
theorem CS.gone (h : CS base n T want d) : d.gone = false := by
  obtain ⟨S, a, b, c, e, f⟩ := h
  exact a.2.2
theorem CS.newOk (h : CS base n T want d) (hn : 1 ≤ n) : newOk d base n := by
  obtain ⟨S, a, b, c, e, f⟩ := h
  have := secN_eq c.n0.1
  exact ⟨hn, c.n0.2, c.b0, by rw [a.1]; have := c.hi; omega⟩
theorem qs_new (L : Nat) (hL : L ≤ 512) (h0 : 0 ≤ base) (hn : 0 ≤ n ∧ n ≤ 8) (hi : base + (3 + 2 * n) ≤ (L : Int)) : QS base n 1 (fun _ => noPage) (newD L) := by
  have hl : Lies (List.replicate L (noughts 128)) base n := ⟨h0, hn, by rw [List.length_replicate]; exact hi⟩
  exact ⟨_, new_mid L, rfl, hl, by rw [List.length_replicate]; exact hL, new_good hl⟩
theorem ht_new (base : Int) (d : DS) : HT base 1 d := .inl rfl
theorem packed_iff (p : Int × ByteArray) : (Page.packF p.1 p.2).2 = 0 → Packed (Page.packF p.1 p.2).1 p := fun h => by
  unfold Packed
  rw [← h]
/-- Write, on a quiet disk. -/
theorem qs_write (h : QS base n T want d) (hT : 0 ≤ T ∧ T < 4294967295) {i : Int} (hi : 0 ≤ i ∧ i < n) {p : Int × ByteArray} {b : ByteArray} (hp : Packed b p) :
    (storeW base n T i p.1 p.2 d).1 = 0 ∧ (storeW base n T i p.1 p.2 d).2.1 = T + 1 ∧ QS base n (T + 1) (up want i p) (storeW base n T i p.1 p.2 d).2.2 ∧ HT base (T + 1) (storeW base n T i p.1 p.2 d).2.2 := by
  obtain ⟨S, a, b', c, e, f⟩ := h
  obtain ⟨r1, r2, r3, r4⟩ := write_free a b' c f hT hi hp
  obtain ⟨g1, g2⟩ := write_good c f hT hi hp
  refine ⟨r1, r2, ⟨_, r3, r4, c.len (wrote_len _ _ _ _ _), by rw [wrote_len]; exact e, g1⟩, .inr ?_⟩
  have := c.b0; have := c.hi; have := c.n0
  rw [quiet_readS r3 (by omega) (by rw [wrote_len]; omega), g2]
  have hb : (byte1 i).size ≤ 112 := by rw [byte1_size]; decide
  exact ⟨sec_valid (by omega) (by decide) hb, by rw [ep_sec (by omega) (by decide) hb]; omega⟩
theorem storeW_no {i : Int} {p : Int × ByteArray} (hi : 0 ≤ i ∧ i < n) (hp : (Page.packF p.1 p.2).2 ≠ 0) : storeW base n T i p.1 p.2 d = ((Page.packF p.1 p.2).2, T, d) := by
  unfold storeW
  rw [if_neg (by omega), if_pos hp]
/-- Write of any page. -/
theorem qs_any (h : QS base n T want d) (h2 : HT base T d) (hT : 0 ≤ T ∧ T < 4294967295) {i : Int} (hi : 0 ≤ i ∧ i < n) (p : Int × ByteArray) :
    ∃ T' want', (storeW base n T i p.1 p.2 d).2.1 = T' ∧ QS base n T' want' (storeW base n T i p.1 p.2 d).2.2 ∧ HT base T' (storeW base n T i p.1 p.2 d).2.2 ∧ T ≤ T' ∧ T' ≤ T + 1 := by
  by_cases hp : (Page.packF p.1 p.2).2 = 0
  · obtain ⟨_, r2, r3, r4⟩ := qs_write h hT hi (packed_iff p hp)
    exact ⟨_, _, r2, r3, r4, by omega, by omega⟩
  · rw [storeW_no hi hp]
    exact ⟨T, want, rfl, h, h2, by omega, by omega⟩
theorem qs_any2 (h : QS base n T want d) (h2 : HT base T d) (hT : 0 ≤ T ∧ T < 4294967295) {i : Int} (hi : 0 ≤ i ∧ i < n) (a : Int) (b : ByteArray) :
    ∃ T' want', (storeW base n T i a b d).2.1 = T' ∧ QS base n T' want' (storeW base n T i a b d).2.2 ∧ HT base T' (storeW base n T i a b d).2.2 ∧ T ≤ T' ∧ T' ≤ T + 1 := qs_any h h2 hT hi (a, b)
theorem qs_read (h : QS base n T want d) {k : Int} (hk : 0 ≤ k ∧ k < n) : storeR d base n k = ((want k).1, (want k).2, 0) := by
  obtain ⟨S, a, b, c, e, f⟩ := h
  exact read_good a c f hk
/-- Open, on a quiet disk. -/
theorem cs_open (h : CS base n T want d) (hT : 1 ≤ T ∧ T < 4294967295) : (repairS base n d).1 = 0 ∧ QS base n (latestF d base (secN n) + 1) want (repairS base n d).2 ∧ latestF d base (secN n) < T := by
  obtain ⟨S, a, b, c, e, f⟩ := h
  obtain ⟨r1, S', r2, r3, r4, r5, r6⟩ := open_free a b c f hT
  exact ⟨r1, ⟨S', r2, r3, c.len r4, by omega, r5⟩, r6⟩
theorem ht_latest (h : QS base n T want d) (h2 : HT base T d) (hT : 1 ≤ T) : T - 1 ≤ latestF d base (secN n) := by
  obtain ⟨S, a, b, c, e, f⟩ := h
  rcases h2 with h2 | ⟨v, h2⟩
  · have := (latest_lt d base (secN n)).1; omega
  · have := c.b0; have := c.hi; have := c.n0
    have hs := secN_eq c.n0.1
    rw [quiet_readS a (by omega) (by omega)] at v h2
    rw [← h2]
    exact latest_le a c.b0 (secN n) (by rw [hs]; exact c.hi) (base + 2) (by omega) (by omega) v
theorem QS.same (h : QS base n T want d) {want2 : Int → Int × ByteArray} (hw : ∀ k, 0 ≤ k → k < n → want2 k = want k) : QS base n T want2 d := by
  obtain ⟨S, a, b, c, e, f⟩ := h
  have hP : ∀ k, 0 ≤ k → k < n → PageOk (cut S (hm base k)) (cut S (hm base k + 1)) k (want2 k) := fun k k0 k1 => by rw [hw k k0 k1]; exact f.all k k0 k1
  refine ⟨S, a, b, c, e, ⟨f.inv.fine, fun e' i b' hj => ?_, fun k k0 k1 _ => hP k k0 k1⟩, hP⟩
  obtain ⟨_, _, hi, _⟩ := jour_some hj
  rw [hw i hi.1 hi.2]
  exact f.inv.j e' i b' hj
def AC (base n T : Int) (want : Int → Int × ByteArray) (d : DS) : Prop := ∃ S, Mid S [] d ∧ Lies S base n ∧ S.length ≤ 512 ∧ Inv (cut S) base n T want
theorem AC.gone (h : AC base n T want d) : d.gone = false := by
  obtain ⟨S, a, b, c, e⟩ := h
  exact a.2.2
theorem AC.newOk (h : AC base n T want d) (hn : 1 ≤ n) : newOk d base n := by
  obtain ⟨S, a, c, e, f⟩ := h
  have := secN_eq c.n0.1
  exact ⟨hn, c.n0.2, c.b0, by rw [a.1]; have := c.hi; omega⟩
end
end Go.Proofs.Ytneilimiijcghaa.St
namespace Go.Proofs.Ytneilimiijcghaa.St
open Go Go.RowKit Go.ChangeMaps Go.Proofs.YtneilimiijcghaaW.PrintWords Go.Proofs.Ytneilimiijcghaa.Arr Go.Proofs.Ytneilimiijcghaa.Mp Go.Proofs.Ytneilimiijcghaa.Ow Go.Proofs.Ytneilimiijcghaa.Dk Go.Proofs.Ytneilimiijcghaa.Fr
set_option linter.unusedVariables false
set_option linter.unusedSimpArgs false
structure SO (w : World) (c : Nat → Nat) (gs g : Nat) (base n T : Int) (d : DS) : Prop where
  sk : SK w (Col c 1) gs g base n T d
  col : c gs = 2
section
variable {M : List Nat} {w w' w0 : World} {c c' : Nat → Nat} {gs g gs2 : Nat} {base n T T2 : Int} {d d' : DS}
theorem SO.keep (h : SO w c gs g base n T d) (hf : Fr M w c w' c') (h1 : 1 ∉ M) (h2 : 2 ∉ M) : SO w' c' gs g base n T d := by
  have hl := h.sk.lt
  refine ⟨⟨?_, ?_, dk_keep h.sk.dk hf h1⟩, (hf.col gs hl).trans h.col⟩
  · exact (hf.blk gs hl (by rw [h.col]; exact h2)).trans h.sk.blk
  · intro e
    have : c' gs = 1 := e
    rw [hf.col gs hl, h.col] at this
    omega
theorem SO.below (h : SO w c gs g base n T d) (hb : Below w.heap.size w w') : SO w' c gs g base n T d := h.keep (Fr.of_below (M := []) hb) (by simp) (by simp)
theorem SO.drew (h : SO w c gs g base n T d) : SO w.drew c gs g base n T d := h.below ((Below.refl _ _).drew)
/-- Another store over the same disk. -/
theorem SO.other (h : SO w c gs g base n T d) (hf : Fr M w c w' c') (h2 : 2 ∉ M) (k : SO w' c' gs2 g base n T2 d') : SO w' c' gs g base n T d' := by
  have hl := h.sk.lt
  have e2 : c' gs = 2 := (hf.col gs hl).trans h.col
  refine ⟨⟨(hf.blk gs hl (by rw [h.col]; exact h2)).trans h.sk.blk, ?_, k.sk.dk⟩, e2⟩
  intro e
  have : c' gs = 1 := e
  omega
theorem write_o {N : Nat} (h : SO w c gs g base n T d) (ho : OkN N d) (hN : N < 800000) (hi : (0 ≤ base ∧ base ≤ 900) ∧ 0 ≤ n ∧ n ≤ 8) (ht : 0 ≤ T ∧ T < 4294967295) (i a : Int) (dta : ByteArray) :
    Calls Try.prog 13 #[.pointer (some ⟨gs, 0, none⟩), .int .i64 i, .agg #[.int .i64 a, .string dta]] w fun x w' => x = .returned (.int .i64 (storeW base n T i a dta d).1) ∧ ∃ c', Fr [1, 2] w c w' c' ∧ SO w' c' gs g base n (storeW base n T i a dta d).2.1 (storeW base n T i a dta d).2.2 := by
  have hl := h.sk.lt
  have hS := h.sk.less (S1 := Col (Dk.paint c w.heap.size 1) 1) (fun k hk e => (paint_old hk).trans e)
  have h2 : SK w (Col (Dk.paint c w.heap.size 1) 1) gs g base n T d := ⟨h.sk.blk, fun e => h.sk.off ((paint_old hl).symm.trans e), h.sk.dk.mono fun k hk e => (paint_old hk).trans e⟩
  refine (swrite_calls d g gs base n T i a dta _ w (top_paint c w 1) h2 ho hN hi ht).mono ?_
  rintro x w' ⟨rfl, hk, hf⟩
  refine ⟨rfl, Dk.paint c w.heap.size 1, Fr.of_fs hf (fun k hk => paint_old hk) (fun k hk e => ?_), hk, (paint_old hl).trans h.col⟩
  rcases e with e | e
  · have e2 : Dk.paint c w.heap.size 1 k = 1 := e
    rw [paint_old hk] at e2
    rw [e2]; simp
  · rw [e, h.col]; simp
theorem read_o {N : Nat} (h : SO w c gs g base n T d) (ho : OkN N d) (hi : (0 ≤ base ∧ base ≤ 900) ∧ 0 ≤ n ∧ n ≤ 8) (i : Int) :
    Calls Try.prog 17 #[.pointer (some ⟨gs, 0, none⟩), .int .i64 i] w fun x w' => x = .returned (.tuple #[.agg #[.int .i64 (storeR d base n i).1, .string (storeR d base n i).2.1], .int .i64 (storeR d base n i).2.2]) ∧ Below w.heap.size w w' := sRead_calls d g gs base n T i _ w h.sk ho hi
theorem new_o {N : Nat} (h : DK w (Col c 1) g d) (ho : OkN N d) (hb : base ≤ 1000) (hn : newOk d base n) : Calls Try.prog 8 #[.pointer (some ⟨g, 0, none⟩), .int .i64 base, .int .i64 n] w fun x w' =>
    ∃ gs c', x = .returned (.tuple #[.pointer (some ⟨gs, 0, none⟩), .int .i64 0]) ∧ Fr [] w c w' c' ∧ SO w' c' gs g base n 1 d := by
  refine (snew_calls d g base n _ w h ho hb hn).mono ?_
  rintro x w' ⟨gs, rfl, hgs, hk, hb⟩
  refine ⟨gs, Dk.paint (fun k => c k) w.heap.size 2, rfl, Fr.of_paint hb 2, ⟨hk.blk, fun e => ?_, ?_⟩, paint_new hgs⟩
  · have : Dk.paint (fun k => c k) w.heap.size 2 gs = 1 := e
    rw [paint_new hgs] at this; omega
  · exact (h.mono (S2 := Col (Dk.paint (fun k => c k) w.heap.size 2) 1) fun k hk e => (paint_old hk).trans e).below hb
theorem open_o {N : Nat} (h : DK w (Col c 1) g d) (ho : OkN N d) (hN : N < 800000) (hb : base ≤ 900) (hn : newOk d base n) (hg : d.gone = false) (hl : latestF d base (secN n) < 4294967290) : Calls Try.prog 16 #[.pointer (some ⟨g, 0, none⟩), .int .i64 base, .int .i64 n] w fun x w' =>
    ∃ gs c', x = .returned (.tuple #[openV (repairS base n d).1 gs, .int .i64 (repairS base n d).1]) ∧ Fr [1] w c w' c' ∧ SO w' c' gs g base n (latestF d base (secN n) + 1) (repairS base n d).2 := by
  refine (sopen_calls d g base n (Col (Dk.paint c w.heap.size 1) 1) w (top_paint c w 1) (h.mono fun k hk e => (paint_old hk).trans e) ho hN hb hn hg hl).mono ?_
  rintro x w' ⟨gs, hgs, rfl, hk, hf⟩
  refine ⟨gs, fun k => if k = gs then 2 else Dk.paint c w.heap.size 1 k, rfl, Fr.of_fs hf (fun k hk => ?_) (fun k hk e => ?_), ⟨⟨hk.blk, fun e => ?_, hk.dk.mono fun k hk' e => ?_⟩, if_pos rfl⟩⟩
  · rw [if_neg (by omega), paint_old hk]
  · have e2 : Dk.paint c w.heap.size 1 k = 1 := e
    rw [paint_old hk] at e2; rw [e2]; simp
  · have : (if gs = gs then 2 else Dk.paint c w.heap.size 1 gs) = 1 := e
    rw [if_pos rfl] at this; omega
  · show (if k = gs then 2 else Dk.paint c w.heap.size 1 k) = 1
    rw [if_neg e.2]; exact e.1
theorem ticket_o (h : SO w c gs g base n T d) (ht : 0 ≤ T ∧ T < 4294967296) : Calls Try.prog 19 #[.pointer (some ⟨gs, 0, none⟩)] w fun e w' => e = .returned (.int .i64 T) ∧ Below w.heap.size w w' := ticket_calls d g gs base n T _ w h.sk ht
theorem read_q {want : Int → Int × ByteArray} (h : SO w c gs g base n T d) (hq : QS base n T want d) (hb : 0 ≤ base ∧ base ≤ 900) (hn : 0 ≤ n ∧ n ≤ 8) {k a : Int} {b : ByteArray} (hk : 0 ≤ k ∧ k < n) (hw : want k = (a, b)) :
    Calls Try.prog 17 #[.pointer (some ⟨gs, 0, none⟩), .int .i64 k] w fun x w' => x = .returned (.tuple #[.agg #[.int .i64 a, .string b], .int .i64 0]) ∧ Below w.heap.size w w' := by
  have hr := qs_read hq hk
  rw [hw] at hr
  have := read_o h hq.ok ⟨hb, hn⟩ k
  rw [hr] at this
  exact this
theorem open_q {want : Int → Int × ByteArray} (h : DK w (Col c 1) g d) (hq : CS base n T want d) (hb : base ≤ 900) (hn : 1 ≤ n) (hT : 1 ≤ T ∧ T < 4294967290) : Calls Try.prog 16 #[.pointer (some ⟨g, 0, none⟩), .int .i64 base, .int .i64 n] w fun x w' =>
    ∃ gs c' d' T', x = .returned (.tuple #[.pointer (some ⟨gs, 0, none⟩), .int .i64 0]) ∧ Fr [1] w c w' c' ∧ SO w' c' gs g base n T' d' ∧ QS base n T' want d' ∧ T' = latestF d base (secN n) + 1 ∧ 1 ≤ T' ∧ T' ≤ T := by
  obtain ⟨r1, r2, r3⟩ := cs_open hq ⟨hT.1, by omega⟩
  have hl := (latest_lt d base (secN n)).1
  refine (open_o h hq.ok (by decide) hb (hq.newOk hn) hq.gone (by omega)).mono ?_
  rintro x w' ⟨gs, c', rfl, hf, hs⟩
  refine ⟨gs, c', _, _, ?_, hf, hs, r2, rfl, by omega, by omega⟩
  rw [r1]
  rfl
/-- A store of older ticket over the same disk is read alike. -/
theorem read_old {want : Int → Int × ByteArray} (h : SO w c gs g base n T d) (hq : QS base n T2 want d) (hb : 0 ≤ base ∧ base ≤ 900) (hn : 0 ≤ n ∧ n ≤ 8) {k a : Int} {b : ByteArray} (hk : 0 ≤ k ∧ k < n) (hw : want k = (a, b)) :
    Calls Try.prog 17 #[.pointer (some ⟨gs, 0, none⟩), .int .i64 k] w fun x w' => x = .returned (.tuple #[.agg #[.int .i64 a, .string b], .int .i64 0]) ∧ Below w.heap.size w w' := by
  have hr := qs_read hq hk
  rw [hw] at hr
  have := read_o h hq.ok ⟨hb, hn⟩ k
  rw [hr] at this
  exact this
end
end Go.Proofs.Ytneilimiijcghaa.St
namespace Go.Proofs.Ytneilimiijcghaa.X12
open Go Go.RowKit Go.ChangeMaps Go.Proofs.Ytneilimiijcghaa.Arr Go.Proofs.Ytneilimiijcghaa.Mp Go.Proofs.Ytneilimiijcghaa.Ow Go.Proofs.Ytneilimiijcghaa.Dk Go.Proofs.Ytneilimiijcghaa.Fr Go.Proofs.Ytneilimiijcghaa.St Go.Proofs.YtneilimiijcghaaW.PrintWords Go.Proofs.YtneilimiijcghaaW.PrintLast Go.Proofs.YtneilimiijcghaaW.PrintMore
set_option linter.unusedVariables false
set_option linter.unusedSimpArgs false
/-- Calls as a program can have them. -/
def OkOp (x : S39) : Prop := (-9223372036854775808 ≤ x.f0 ∧ x.f0 < 9223372036854775808) ∧ (-9223372036854775808 ≤ x.f1 ∧ x.f1 < 9223372036854775808) ∧ (-9223372036854775808 ≤ x.f2 ∧ x.f2 < 9223372036854775808) ∧ (-9223372036854775808 ≤ x.f3.f0 ∧ x.f3.f0 < 9223372036854775808) ∧ ∀ y ∈ x.f4, 0 ≤ y ∧ y < 256
def OkOps (l : List S39) : Prop := ∀ x ∈ l, OkOp x
theorem rd_mem {l : List S39} {k : Nat} (h : k < l.length) : rd_T39 l k ∈ l := by
  unfold rd_T39
  rw [Int.toNat_natCast, List.getD_eq_getElem?_getD, List.getElem?_eq_getElem h]
  exact List.getElem_mem h
def longF (l : List S39) : Bool := l.any (fun x => decide (500 < x.f3.f1.size) || decide (200 < x.f4.length)) || decide (200 < l.length)
theorem long_go (l : List S39) (hm : l.length ≤ maxLen) : ∀ (m i : Nat), i + m = l.length → careenlaw07_long.l0 (m + 1) l l (l.length : Int) (i : Int) = some ((l.drop i).any (fun x => decide (500 < x.f3.f1.size) || decide (200 < x.f4.length)) || decide (200 < l.length)) := by
  have hml : maxLen ≤ 9223372036854775807 := by decide
  intro m
  induction m with
  | zero =>
    intro i hi
    unfold careenlaw07_long.l0
    rw [if_neg (by omega), List.drop_of_length_le (by omega)]
    simp only [List.any_nil, Bool.false_or]
    exact congrArg some (decide_eq_decide.2 ⟨fun h => by omega, fun h => by omega⟩)
  | succ m ih =>
    intro i hi
    unfold careenlaw07_long.l0
    have hd : l.drop i = rd_T39 l (i : Nat) :: l.drop (i + 1) := by
      rw [List.drop_eq_getElem_cons (by omega)]
      unfold rd_T39
      rw [Int.toNat_natCast, List.getD_eq_getElem?_getD, List.getElem?_eq_getElem (by omega)]
      rfl
    have hw : wrap64 ((i : Int) + 1) = ((i + 1 : Nat) : Int) := by unfold wrap64; omega
    rw [if_pos (by omega), if_pos (by omega), if_pos (by omega), hd, List.any_cons, hw, ih (i + 1) (by omega)]
    by_cases h1 : (((rd_T39 l (i : Nat)).f3.f1).size : Int) > 500
    · rw [if_pos h1, decide_eq_true (by omega)]
      simp
    · rw [if_neg h1, decide_eq_false (p := 500 < _) (by omega)]
      by_cases h2 : (((rd_T39 l (i : Nat)).f4).length : Int) > 200
      · rw [if_pos h2, decide_eq_true (p := 200 < (rd_T39 l (i : Nat)).f4.length) (by omega)]
        simp
      · rw [if_neg h2, decide_eq_false (p := 200 < (rd_T39 l (i : Nat)).f4.length) (by omega)]
        simp
theorem long_calls (A0 : Option Addr) (c0 : Nat) (l : List S39) (w : World) (hr : Kd.C k39 w A0 l.length l) (hc : l.length ≤ c0) : Calls Try.prog 10 #[.slice A0 l.length c0] w fun e w' => e = .returned (.bool (longF l)) ∧ Below w.heap.size w w' := by
  have := long_go l (Kd.C_max hr) l.length 0 (by omega)
  rw [List.drop_zero] at this
  exact careenlaw07_long.calls (l.length + 1) A0 c0 l (longF l) w hr hc this
def rightP (a : Int) (b : ByteArray) : Bool := decide (0 ≤ a ∧ a ≤ 2147483647 ∧ b.size = 220)
theorem right_calls (a : Int) (b : ByteArray) (w : World) : Calls Try.prog 12 #[.agg #[.int .i64 a, .string b]] w fun e w' => e = .returned (.bool (rightP a b)) ∧ Below w.heap.size w w' := by
  refine careenref06_Right.calls a b _ w ?_
  unfold careenref06_Right.f rightP
  split
  · split
    · rename_i h1 h2
      refine congrArg some ?_
      rw [Bool.eq_iff_iff, beq_iff_eq, decide_eq_true_iff]
      exact ⟨fun h => ⟨by omega, by omega, by omega⟩, fun h => by have := h.2.2; omega⟩
    · rename_i h1 h2
      rw [decide_eq_false (by omega)]
  · rename_i h1
    rw [decide_eq_false (by omega)]
theorem newdisk (L : Nat) (h1 : 1 ≤ L) (h2 : L ≤ 512) (w : World) (c : Nat → Nat) : Calls Try.prog 7 #[.int .i64 (L : Int)] w fun e w' => ∃ g, e = .returned (.tuple #[.pointer (some ⟨g, 0, none⟩), .int .i64 0]) ∧ DK w' (Col (Dk.paint c w.heap.size 1) 1) g (newD L) ∧ Fr [] w c w' (Dk.paint c w.heap.size 1) := by
  refine (new_calls L (by omega) (by omega) w).mono ?_
  rintro e w' ⟨g, hg, rfl, hk, hb⟩
  exact ⟨g, rfl, hk.fresh c 1, Fr.of_paint hb 1⟩
end Go.Proofs.Ytneilimiijcghaa.X12
namespace Go.Proofs.Ytneilimiijcghaa.X12
open Go.Proofs.Ytneilimiijcghaa.Rgn
open Go Go.RowKit Go.ChangeMaps Go.Proofs.Ytneilimiijcghaa.Arr Go.Proofs.Ytneilimiijcghaa.Mp Go.Proofs.Ytneilimiijcghaa.Ow Go.Proofs.Ytneilimiijcghaa.Dk Go.Proofs.Ytneilimiijcghaa.Fr Go.Proofs.Ytneilimiijcghaa.St Go.Proofs.YtneilimiijcghaaW.PrintWords Go.Proofs.YtneilimiijcghaaW.PrintLast Go.Proofs.YtneilimiijcghaaW.PrintMore
set_option linter.unusedVariables false
set_option linter.unusedSimpArgs false
attribute [local go_sem high] eqA34
set_option maxHeartbeats 16000000 in
set_option maxRecDepth 20000 in
theorem opens_walk (n : Int) (A0 : Option Addr) (c0 : Nat) (l : List S39) (w : World) (hr : Kd.C k39 w A0 l.length l) (hc0 : l.length ≤ c0) (ho : OkOps l) : Calls Try.prog 5 #[.int .i64 n, .slice A0 l.length c0] w fun e w' => e = .returned (.bool true) ∧ Below w.heap.size w w' := by
  have hm := Kd.C_max hr
  have HR := Aside0.mk hr; have HC0 := Aside0.mk hc0; have HOPS := Aside0.mk ho
  clear hr hc0 ho
  have G := Aside0.mk (Gr.refl w)
  go_enter Try.func5, Try.ntmps5
  have hi := Lv.mod_ok 8 n (by decide) (by decide)
  have hwn : wrap64 (1 + wrap64 ((IntKind.u64.wrap n).tmod 8)) = 1 + wrap64 ((IntKind.u64.wrap n).tmod 8) := by
    generalize wrap64 ((IntKind.u64.wrap n).tmod 8) = z at *
    unfold wrap64; omega
  go_upto_region 2 with (fail)
  (try simp only [hwn])
  clear hwn
  obtain ⟨n', hn'⟩ : ∃ n', n' = 1 + wrap64 ((IntKind.u64.wrap n).tmod 8) := ⟨_, rfl⟩
  rw [← hn']
  have hn1 : 1 ≤ n' ∧ n' ≤ 8 := by omega
  clear hn' hi
  have HN1 := Aside0.mk hn1.1; have HN := Aside0.mk (show 0 ≤ n' ∧ n' ≤ 1000 by omega); have HN8 := Aside0.mk (show 0 ≤ n' ∧ n' ≤ 8 by omega)
  have hsn := secN_eq (show 0 ≤ n' by omega)
  have hnew : ∀ {w0 w : World} {c : Nat → Nat} (_ : Gr w0 w c), Calls Try.prog 7 #[.int .i64 ((secN n' : Nat) : Int)] w fun e w' => ∃ g, e = .returned (.tuple #[.pointer (some ⟨g, 0, none⟩), .int .i64 0]) ∧ DK w' (Col (Dk.paint c w.heap.size 1) 1) g (newD (secN n')) ∧ Fr [] w c w' (Dk.paint c w.heap.size 1) := fun {_ w c} _ => newdisk (secN n') (by omega) (by omega) w c
  have HQ := Aside0.mk (qs_new (base := 0) (n := n') (secN n') (by omega) (by decide) HN8.out (by omega)); have HT := Aside0.mk (ht_new 0 (newD (secN n')))
  clear hn1 hsn
  go_upto_region 3 with (first | (go_at_call 18; (with_reducible refine (sectors_calls n' HN.out _).mono ?_); rintro e w1 ⟨rfl, hb1⟩; have G_n := Aside0.mk (G.out.below hb1); clear G; have G := G_n; clear G_n; clear hb1) | (go_at_call 7; (with_reducible refine (hnew G.out).mono ?_); rintro e w1 ⟨g, rfl, hk, hf⟩; have G_n := Aside0.mk (G.out.step hf (by decide)); clear G; have G := G_n; clear G_n; have HD := Aside0.mk hk; clear hk hf))
  clear hnew
  generalize newD (secN n') = d0 at *
  generalize (fun _ => noPage : Int → Int × ByteArray) = want0 at *
  go_upto_region 4 with (go_at_call 8; (with_reducible refine (new_o HD.out HQ.out.ok (by decide) (HQ.out.cs.newOk HN1.out)).mono ?_); rintro e w1 ⟨gs, c1, rfl, hf, hs⟩; have G_n := Aside0.mk (G.out.step hf (by decide)); clear G; have G := G_n; clear G_n; have HS := Aside0.mk hs; clear hs hf HD)
  cases hlg : longF l with
  | true =>
    go_wp2_with (first | (go_at_call 9; (with_reducible refine (awake_calls _).mono ?_); rintro e w1 ⟨rfl, hb1⟩; have G_n := Aside0.mk (G.out.below hb1); have HS_n := Aside0.mk (HS.out.below hb1); clear G HS; have G := G_n; have HS := HS_n; clear G_n HS_n; clear hb1) | (go_at_call 10; (with_reducible refine (long_calls _ _ _ _ (Kd.C_below HR.out G.out.bel) HC0.out).mono ?_); rintro e w1 ⟨rfl, hb1⟩; have G_n := Aside0.mk (G.out.below hb1); have HS_n := Aside0.mk (HS.out.below hb1); clear G HS; have G := G_n; have HS := HS_n; clear G_n HS_n; clear hb1))
    go_ret
    exact ⟨rfl, G.out.bel⟩
  | false =>
    have HL200 := Aside0.mk (show l.length ≤ 200 from by
      have := hlg
      unfold longF at this
      simp only [Bool.or_eq_false_iff, decide_eq_false_iff_not] at this
      omega)
    go_upto_region 6 with (first | (go_at_call 9; (with_reducible refine (awake_calls _).mono ?_); rintro e w1 ⟨rfl, hb1⟩; have G_n := Aside0.mk (G.out.below hb1); have HS_n := Aside0.mk (HS.out.below hb1); clear G HS; have G := G_n; have HS := HS_n; clear G_n HS_n; clear hb1) | (go_at_call 10; (with_reducible refine (long_calls _ _ _ _ (Kd.C_below HR.out G.out.bel) HC0.out).mono ?_); rintro e w1 ⟨rfl, hb1⟩; have G_n := Aside0.mk (G.out.below hb1); have HS_n := Aside0.mk (HS.out.below hb1); clear G HS; have G := G_n; have HS := HS_n; clear G_n HS_n; clear hb1))
    clear hlg
    go_upto_region 7 with (fail)
    go_loopw [52] (fun v wr => ∃ (r : Nat) (T : Int) (want : Int → Int × ByteArray) (d : DS) (c : Nat → Nat), v = .int .i64 r ∧ Aside0 (r ≤ l.length) ∧ Aside0 (Gr w wr c) ∧ Aside0 (SO wr c gs g 0 n' T d) ∧ Aside0 (QS 0 n' T want d) ∧ Aside0 (St.HT 0 T d) ∧ Aside0 (1 ≤ T ∧ T ≤ 1 + r)) (fun v _ => l.length - (intOf v).toNat)
    case atStart => exact ⟨0, 1, want0, d0, _, rfl, ⟨by omega⟩, G, HS, HQ, HT, ⟨by omega⟩⟩
    case round =>
      clear G HS HQ HT
      obtain ⟨r, T, want, d, c, rfl, R, G, HS, HQ, HT, HB⟩ := hrel
      by_cases hlt : r < l.length
      · have h1 : (r : Int) < (l.length : Int) := by omega
        have hwk : wrap64 ((r : Int) + 1) = ((r + 1 : Nat) : Int) := by unfold wrap64; omega
        have HLT := Aside0.mk hlt
        obtain ⟨ad, A5, c5, rfl, q0, q1, q2, q3, q4, q5, hl5, hC5⟩ := at_T39 (Kd.C_below HR.out G.out.bel) (r : Int) (by omega) h1
        rw [Int.toNat_natCast] at q0 q1 q2 q3 q4 q5
        have HOP := Aside0.mk (HOPS.out _ (rd_mem hlt))
        clear hl5 hC5
        generalize rd_T39 l (r : Nat) = o_ at *
        go_upto_region 9 with (fail)
        have hf := fr_alloc [] wr c 4 (.cells #[.int .i64 o_.f0, .int .i64 o_.f1, .int .i64 o_.f2, .int .i64 o_.f3.f0, .string o_.f3.f1, .slice A5 o_.f4.length c5] 39)
        have G_n := Aside0.mk (G.out.step hf (by decide)); have HS_n := Aside0.mk (HS.out.keep hf (by decide) (by decide)); clear G HS; have G := G_n; have HS := HS_n; clear G_n HS_n
        have LO := Aside0.mk (loc_alloc wr c 4 #[.int .i64 o_.f0, .int .i64 o_.f1, .int .i64 o_.f2, .int .i64 o_.f3.f0, .string o_.f3.f1, .slice A5 o_.f4.length c5] 39)
        clear hf
        generalize Dk.paint c wr.heap.size 4 = cLO at *
        generalize wr.alloc (.cells #[.int .i64 o_.f0, .int .i64 o_.f1, .int .i64 o_.f2, .int .i64 o_.f3.f0, .string o_.f3.f1, .slice A5 o_.f4.length c5] 39) = W at *
        generalize wr.heap.size = ob at *
        clear q0 q1 q2 q3 q4 q5
        have G_n := Aside0.mk (G.out.drew); have HS_n := Aside0.mk (HS.out.drew); have LO_n := Aside0.mk (LO.out.drew); clear G HS LO; have G := G_n; have HS := HS_n; have LO := LO_n; clear G_n HS_n LO_n
        have q1 : W.drew.cell? ⟨ob, 1, none⟩ = some (.int .i64 o_.f1) := blk_cell LO.out.blk 1; have q3 : W.drew.cell? ⟨ob, 3, none⟩ = some (.int .i64 o_.f3.f0) := blk_cell LO.out.blk 3; have q4 : W.drew.cell? ⟨ob, 4, none⟩ = some (.string o_.f3.f1) := blk_cell LO.out.blk 4
        have HTT := Aside0.mk (show 0 ≤ T ∧ T < 4294967295 by have := HB.out; have := HL200.out; omega)
        have HMO := Aside0.mk (show 0 ≤ wrap64 ((IntKind.u64.wrap o_.f1).tmod (IntKind.u64.wrap n')) ∧ wrap64 ((IntKind.u64.wrap o_.f1).tmod (IntKind.u64.wrap n')) < n' by
          have e : IntKind.u64.wrap n' = n' := by rw [IntKind.wrap_u64]; have := HN1.out; have := HN8.out; omega
          rw [e]; exact Lv.mod_ok n' o_.f1 (by have := HN1.out; omega) (by have := HN8.out; omega))
        have hnz : (IntKind.u64.wrap n' = 0) = False := eq_false (by rw [IntKind.wrap_u64]; have := HN1.out; have := HN8.out; omega)
        refine start_ (n := 11) (S := fun w' => w'.cell? ⟨ob, 1, none⟩ = some (.int .i64 o_.f1) ∧ w'.cell? ⟨ob, 3, none⟩ = some (.int .i64 o_.f3.f0) ∧ w'.cell? ⟨ob, 4, none⟩ = some (.string o_.f3.f1)) (ds := [10]) #[false, false, false, false, false, false, false, false, false, false, false] (by kernel_rfl) rfl rfl ⟨q1, q3, q4⟩ (fun hHeld => ?_)
        refine rgp 0 56 ?_
        refine rgp 1 57 ?_
        refine rgp 4 60 ?_
        refine rgp 5 61 ?_
        refine rgp 8 64 ?_
        refine rgt 2 58 hHeld ?_
        refine rgp 3 59 ?_
        refine rgp 6 62 ?_
        refine rgp 7 63 ?_
        refine rgt 9 65 hHeld ?_
        refine last_ (i := 10) (N := some 66) #[true, true, true, true, true, true, true, true, true, true, true] rfl rfl (by kernel_rfl) (by decide) (fun K hK => ?_)
        refine goes_ Try.func13 (by kernel_rfl) rfl #[.pointer (some ⟨gs, 0, none⟩), .int .i64 (wrap64 ((IntKind.u64.wrap o_.f1).tmod (IntKind.u64.wrap n'))), .agg #[.int .i64 o_.f3.f0, .string o_.f3.f1]] (by rfl) rfl rfl (by (try simp only [List.map_toArray, List.map_cons, List.map_nil]); first | done | rfl) ?_
        refine (write_o HS.out HQ.out.ok (by decide) ⟨by decide, HN8.out⟩ HTT.out _ _ _).mono ?_
        rintro e v1_ ⟨rfl, c2, hf, hs⟩
        refine ⟨_, rfl, ?_⟩
        have G_n := Aside0.mk (G.out.step hf (by decide)); clear G; have G := G_n; clear G_n; clear HS; have HS := Aside0.mk hs; clear hs hf
        refine hK _ _ ?_
        clear hK K
        refine norm_ (a' := ?_) ?_ ?_
        rotate_left
        · show Act.put _ (some 66) _ = _
          simp only [Act.put, List.setIfInBounds_toArray, List.set_cons_zero, List.set_cons_succ, i64_w, i32_w]
          rfl
        refine done_ (by kernel_rfl) ?_
        clear hnz
        simp only [Exit.inBlock, Exit.then]
        obtain ⟨T', want', ht, hq, h2, b1, b2⟩ := qs_any2 HQ.out HT.out HTT.out HMO.out o_.f3.f0 o_.f3.f1
        rw [ht] at HS
        clear HQ HT
        have HQ := Aside0.mk hq; have HT := Aside0.mk h2
        clear hq h2 ht
        go_wp2
        go_roundw
        case rel => exact ⟨r + 1, T', want', _, _, by first | rfl | (rw [hwk]) | go_num, ⟨by have := HLT.out; omega⟩, G, HS, HQ, HT, ⟨by have := HB.out; omega⟩⟩
        case measure =>
          have := HLT.out
          show l.length - (intOf (.int .i64 ((r + 1 : Nat) : Int))).toNat < l.length - (intOf (.int .i64 (r : Int))).toNat
          simp only [intOf]; omega
      · obtain rfl : r = l.length := by have := R.out; omega
        have HTT := Aside0.mk (show 1 ≤ T ∧ T < 4294967290 by have := HB.out; have := HL200.out; omega)
        clear hlt
        go_upto_region 12 with (go_at_call 16; (with_reducible refine (open_q HS.out.sk.dk HQ.out.cs (by decide) HN1.out HTT.out).mono ?_); rintro e w1 ⟨gs2, c2, d2, T2, rfl, hf, hs, hq, ht, t1, t2⟩; have G_n := Aside0.mk (G.out.step hf (by decide)); clear G; have G := G_n; clear G_n; have HS_n := Aside0.mk (HS.out.other hf (by decide) hs); have HS2 := Aside0.mk hs; have HQ2 := Aside0.mk hq; have HT2 := Aside0.mk (show T ≤ T2 by have := ht_latest HQ.out HT.out (by have := HB.out; omega); omega); have HT2b := Aside0.mk (show 0 ≤ T2 ∧ T2 < 4294967296 by have := HTT.out; omega); clear HS hs hf hq ht t1 t2; have HS := HS_n; clear HS_n)
        have htt : decide (T2 < T) = false := decide_eq_false (by have := HT2.out; omega)
        have htt2 : ¬ (T2 < T) := by have := HT2.out; omega
        go_upto_region 14 with (first | (go_at_call 19; (with_reducible refine (ticket_o HS2.out HT2b.out).mono ?_); rintro e w1 ⟨rfl, hb1⟩; have G_n := Aside0.mk (G.out.below hb1); have HS_n := Aside0.mk (HS.out.below hb1); have HS2_n := Aside0.mk (HS2.out.below hb1); clear G HS HS2; have G := G_n; have HS := HS_n; have HS2 := HS2_n; clear G_n HS_n HS2_n; clear hb1) | (go_at_call 19; (with_reducible refine (ticket_o HS.out (by have := HTT.out; omega)).mono ?_); rintro e w1 ⟨rfl, hb1⟩; have G_n := Aside0.mk (G.out.below hb1); have HS_n := Aside0.mk (HS.out.below hb1); have HS2_n := Aside0.mk (HS2.out.below hb1); clear G HS HS2; have G := G_n; have HS := HS_n; have HS2 := HS2_n; clear G_n HS_n HS2_n; clear hb1))
        clear htt htt2 HQ HT
        go_upto_region 15 with (fail)
        go_loopw [89] (fun v wr => ∃ (r : Nat) (c : Nat → Nat), v = .int .i64 r ∧ Aside0 ((r : Int) ≤ n') ∧ Aside0 (Gr w wr c) ∧ Aside0 (SO wr c gs g 0 n' T d2) ∧ Aside0 (SO wr c gs2 g 0 n' T2 d2)) (fun v _ => n'.toNat - (intOf v).toNat)
        case atStart => exact ⟨0, _, rfl, ⟨by have := HN8.out; omega⟩, G, HS, HS2⟩
        case round =>
          clear G HS HS2
          obtain ⟨r, c, rfl, R, G, HS, HS2⟩ := hrel
          by_cases hlt : (r : Int) < n'
          · have hwk : wrap64 ((r : Int) + 1) = ((r + 1 : Nat) : Int) := by have := HN8.out; unfold wrap64; omega
            have HLT := Aside0.mk hlt
            have HK := Aside0.mk (show 0 ≤ (r : Int) ∧ (r : Int) < n' by omega)
            obtain ⟨wa, wb, hw⟩ : ∃ a b, want (r : Int) = (a, b) := ⟨_, _, rfl⟩
            have HW := Aside0.mk hw; clear hw
            go_upto_region 18 with (go_at_call 17; (with_reducible refine (read_old HS.out HQ2.out (by decide) HN8.out HK.out HW.out).mono ?_); rintro e w1 ⟨rfl, hb1⟩; have G_n := Aside0.mk (G.out.below hb1); have HS_n := Aside0.mk (HS.out.below hb1); have HS2_n := Aside0.mk (HS2.out.below hb1); clear G HS HS2; have G := G_n; have HS := HS_n; have HS2 := HS2_n; clear G_n HS_n HS2_n; clear hb1)
            have hf := fr_alloc [] w1 c 4 (.cells #[.int .i64 wa, .string wb] 34)
            have G_n := Aside0.mk (G.out.step hf (by decide)); have HS_n := Aside0.mk (HS.out.keep hf (by decide) (by decide)); have HS2_n := Aside0.mk (HS2.out.keep hf (by decide) (by decide)); clear G HS HS2; have G := G_n; have HS := HS_n; have HS2 := HS2_n; clear G_n HS_n HS2_n
            have LX := Aside0.mk (loc_alloc w1 c 4 #[.int .i64 wa, .string wb] 34)
            clear hf
            generalize Dk.paint c w1.heap.size 4 = cLX at *
            generalize w1.alloc (.cells #[.int .i64 wa, .string wb] 34) = W at *
            generalize w1.heap.size = bx at *
            go_upto_region 19 with (go_at_call 17; (with_reducible refine (read_q HS2.out HQ2.out (by decide) HN8.out HK.out HW.out).mono ?_); rintro e w1 ⟨rfl, hb1⟩; have G_n := Aside0.mk (G.out.below hb1); have HS_n := Aside0.mk (HS.out.below hb1); have HS2_n := Aside0.mk (HS2.out.below hb1); have LX_n := Aside0.mk (LX.out.below hb1); clear G HS HS2 LX; have G := G_n; have HS := HS_n; have HS2 := HS2_n; have LX := LX_n; clear G_n HS_n HS2_n LX_n; clear hb1)
            have hf := fr_alloc [] w1 cLX 4 (.cells #[.int .i64 wa, .string wb] 34)
            have G_n := Aside0.mk (G.out.step hf (by decide)); have HS_n := Aside0.mk (HS.out.keep hf (by decide) (by decide)); have HS2_n := Aside0.mk (HS2.out.keep hf (by decide) (by decide)); have LX_n := Aside0.mk (LX.out.keep hf (by decide)); clear G HS HS2 LX; have G := G_n; have HS := HS_n; have HS2 := HS2_n; have LX := LX_n; clear G_n HS_n HS2_n LX_n
            have LY := Aside0.mk (loc_alloc w1 cLX 4 #[.int .i64 wa, .string wb] 34)
            clear hf
            generalize Dk.paint cLX w1.heap.size 4 = cLY at *
            generalize w1.alloc (.cells #[.int .i64 wa, .string wb] 34) = W at *
            generalize w1.heap.size = by_ at *
            have x0 : W.cell? ⟨bx, 0, none⟩ = some (.int .i64 wa) := blk_cell LX.out.blk 0; have x1 : W.cell? ⟨bx, 1, none⟩ = some (.string wb) := blk_cell LX.out.blk 1
            have y0 : W.cell? ⟨by_, 0, none⟩ = some (.int .i64 wa) := blk_cell LY.out.blk 0; have y1 : W.cell? ⟨by_, 1, none⟩ = some (.string wb) := blk_cell LY.out.blk 1
            go_wp2
            go_roundw
            case rel => exact ⟨r + 1, _, by first | rfl | (rw [hwk]) | go_num, ⟨by have := HLT.out; omega⟩, G, HS, HS2⟩
            case measure =>
              have := HLT.out
              (try rw [hwk])
              show n'.toNat - (intOf (.int .i64 ((r + 1 : Nat) : Int))).toNat < n'.toNat - (intOf (.int .i64 (r : Int))).toNat
              simp only [intOf]; omega
          · go_wp2
            go_ret
            exact ⟨rfl, G.out.bel⟩
open Classical in
noncomputable def careenlaw07_StoreOpens.f (a0 : Int) (l1 : List S39) : Option Bool := if OkOps l1 then some true else none
theorem careenlaw07_StoreOpens.calls (a0 : Int) (A1 : Option Addr) (c1 : Nat) (l1 : List S39) (r : Bool) (w : World) (hr1 : Kd.C k39 w A1 l1.length l1) (hc1 : l1.length ≤ c1) (h : careenlaw07_StoreOpens.f a0 l1 = some r) :
    Calls Try.prog 5 #[.int .i64 a0, .slice A1 l1.length c1] w fun e w' => e = .returned (.bool r) ∧ Below w.heap.size w w' := by
  unfold careenlaw07_StoreOpens.f at h
  by_cases ho : OkOps l1
  · rw [if_pos ho] at h
    obtain rfl := Option.some.inj h
    exact opens_walk a0 A1 c1 l1 w hr1 hc1 ho
  · rw [if_neg ho] at h
    cases h
end Go.Proofs.Ytneilimiijcghaa.X12
namespace Go.Proofs.Ytneilimiijcghaa.X12.RowStoreOpens
open Go.ChangeShapes Go.WideShapes Go.ChangeAt Go.RowKit Go.Proofs.Ytneilimiijcghaa.Opens Go.Proofs.YtneilimiijcghaaW.PrintWords
open Go.ChangeMaps (open_string shut_string)
set_option linter.unusedVariables false
theorem own : ownKnob Try.prog.godebug = none := by kernel_rfl
theorem laidOut : laidOutB Try.prog = true := by kernel_rfl
def W34 (x : S34) : Prop := (Lit.int .i64 x.f0).wf = true ∧ x.f1.size ≤ 140737488351232
set_option maxRecDepth 100000 in
theorem opens34 : Opens Try.prog 34 k34 W34 := opens_iso (opens_struct Try.underlying34 (by kernel_rfl) (by kernel_rfl) (opensF_cons (opens_int Try.underlying3) (opensF_one (opens_string Try.underlying9)))) (fun x : S34 => (x.f0, x.f1)) (fun p => ⟨p.1, p.2⟩) (fun _ => rfl)
def W39 (x : S39) : Prop := (Lit.int .i64 x.f0).wf = true ∧ (Lit.int .i64 x.f1).wf = true ∧ (Lit.int .i64 x.f2).wf = true ∧ W34 x.f3 ∧ (x.f4.length ≤ maxLen ∧ x.f4.length * Try.prog.bytesOf 5 ≤ 140737488351232 ∧ ∀ y ∈ x.f4, (Lit.int .u8 y).wf = true)
set_option maxRecDepth 100000 in
theorem opens39 : Opens Try.prog 39 k39 W39 := opens_iso (opens_struct Try.underlying39 (by kernel_rfl) (by kernel_rfl) (opensF_cons (opens_int Try.underlying3) (opensF_cons (opens_int Try.underlying3) (opensF_cons (opens_int Try.underlying3) (opensF_cons opens34 (opensF_one (opens_slice Try.underlying37 (by kernel_rfl) (opens_int Try.underlying5)))))))) (fun x : S39 => (x.f0, x.f1, x.f2, x.f3, x.f4)) (fun p => ⟨p.1, p.2.1, p.2.2.1, p.2.2.2.1, p.2.2.2.2⟩) (fun _ => rfl)
/-- The statement, over plain values. -/
def Pure : Prop := ∀ (x0 : Int) (x1 : List S39), (Lit.int .i64 x0).wf = true → (x1.length ≤ maxLen ∧ x1.length * Try.prog.bytesOf 39 ≤ 140737488351232 ∧ ∀ y ∈ x1, W39 y) → ∃ k : Nat, careenlaw07_StoreOpens.f x0 x1 = some true
set_option maxRecDepth 100000 in
theorem lifted (PU : Pure) (os : Os) (started : os.Started) (H : Type) (enc : TypeId × Value → H) :
    ReturnsInHanded {} Try.checked os 5 .any (Rows.storeOpensSpec.pre6 enc Try.prog Try.f5 Rows.storeOpensRow.domain false) (Rows.storeOpensSpec.post enc Try.prog Try.f5 false true false false) := by
  refine returnsInHanded_of_change_sized (C := Try.checked) own started (by kernel_rfl) Try.func5
    (ChangeSpec.witness6 (enc := enc) (C := Try.checked) false ⟨#[], #[.int .i64 0, .slice none 0 0], []⟩ 8 (by kernel_rfl) (by kernel_rfl) (by kernel_rfl) (by kernel_rfl)) ?_
  intro W base args ds gs before hval0 hW hcnd hsz0 _
  have hsz : (DataW.weightsEach Try.prog (Try.f5.params.toList ++ Rows.storeOpensSpec.plain.varTypes Try.prog) (ds ++ gs)).all (· ≤ reachBytes) = true := hsz0
  have hval : ∀ (j : Nat) t v, Try.f5.params[j]? = some t → args[j]? = some v → Value.okWide Try.prog W .any base t v := hval0
  have hW' := hW
  obtain ⟨p, q, hA0, hV, rfl, hfz, hnd⟩ := hW
  have hA : DataW.TrodAll enc Try.prog W 0 (fun _ => true) true Try.f5.params.toList args.toList ds p := hA0
  rw [Try.params5] at hA hval hsz
  obtain ⟨v0, vs0, d0, ds0, p0, q0, hargs, rfl, rfl, h0, r0⟩ := trodAll_cons hA
  obtain ⟨v1, vs1, d1, ds1, p1, q1, rfl, rfl, rfl, h1, r1⟩ := trodAll_cons r0
  obtain ⟨rfl, rfl, rfl⟩ := trodAll_nil r1
  obtain rfl : args = #[v0, v1] := by cases args; simp_all
  obtain ⟨rfl, rfl⟩ := trodVars_none hV
  have kk0 := h0
  have lt0 : ∀ x ∈ p0, x.block < W.heap.size := by obtain ⟨m, hm⟩ := kk0; exact DataW.trod_lt m _ _ _ hm
  obtain ⟨x0, hk0, w0⟩ : ∃ x, (Kd.int .i64).K W x v0.cells.toList ∧ (Lit.int .i64 x).wf = true := by
    obtain ⟨fuel, hf⟩ := h0
    exact (opens_int Try.underlying3) hf (fun n hn => by simpa using List.all_eq_true.1 hsz n (DataW.weights_mem_each (j := 0) (t := 3) (d := d0) rfl rfl n hn))
  obtain ⟨z0, rfl⟩ := okWide_int Try.underlying3 (hval 0 3 v0 rfl rfl)
  obtain rfl : z0 = x0 := by
    have e : [Value.int .i64 z0] = [Value.int .i64 x0] := hk0
    simpa using e
  have kk1 := h1
  have lt1 : ∀ x ∈ p1, x.block < W.heap.size := by obtain ⟨m, hm⟩ := kk1; exact DataW.trod_lt m _ _ _ hm
  obtain ⟨x1, hk1, w1⟩ : ∃ x, (Kd.slice 39 k39).K W x v1.cells.toList ∧ (x.length ≤ maxLen ∧ x.length * Try.prog.bytesOf 39 ≤ 140737488351232 ∧ ∀ y ∈ x, W39 y) := by
    obtain ⟨fuel, hf⟩ := h1
    exact (opens_slice Try.underlying22 (by kernel_rfl) opens39) hf (fun n hn => by simpa using List.all_eq_true.1 hsz n (DataW.weights_mem_each (j := 1) (t := 22) (d := d1) rfl rfl n hn))
  obtain ⟨a1, len1, cap1, rfl⟩ := okWide_slice Try.underlying22 (hval 1 22 v1 rfl rfl)
  obtain ⟨A1, c1, e1, hc1, hr1⟩ := hk1
  obtain ⟨rfl, rfl, rfl⟩ : a1 = A1 ∧ len1 = x1.length ∧ cap1 = c1 := by simpa [Value.cells] using e1
  clear hA0 hval0 hsz0 hsz
  obtain ⟨k, h⟩ := PU z0 x1 w0 w1
  refine (careenlaw07_StoreOpens.calls (a0 := z0) (l1 := x1) (r := true) (w := W) (hr1 := hr1) (hc1 := hc1) (h := h)).mono fun e W' ⟨he, bel0⟩ => ?_
  have bel : Below W.heap.size W W' := bel0
  subst he
  exact ⟨_, rfl, _, _, _, [], _, [], hW', trodAll_mk1 (shut_bool Try.underlying4 _), (trodAll_cons_mk (Below.trod laidOut (by kernel_rfl) (of_decide_eq_true (by kernel_rfl)) kk0 bel lt0) (trodAll_cons_mk (Below.trod laidOut (by kernel_rfl) (of_decide_eq_true (by kernel_rfl)) kk1 bel lt1) trodAll_mk0)), rfl, bel.frame _, fun h => by cases h⟩
/-- The row follows from the plain statement. -/
theorem holds (PU : Pure) : Rows.StoreOpensSaid :=
  OpenClaim.holds_of_wide 5 Try.f5 rfl rfl rfl rfl rfl rfl rfl ⟨rfl, rfl, rfl, rfl, rfl⟩ rfl rfl rfl rfl rfl (by kernel_rfl) Try.func5 (by kernel_rfl)
    (of_decide_eq_true (by kernel_rfl)) (by unfold Func.isWrapper; first | (rw [if_pos (by decide +kernel)]; kernel_rfl) | (rw [if_neg (by decide +kernel)]; exact ⟨rfl, rfl⟩))
    (fun os started H enc _ => lifted PU os started H enc)
end Go.Proofs.Ytneilimiijcghaa.X12.RowStoreOpens
