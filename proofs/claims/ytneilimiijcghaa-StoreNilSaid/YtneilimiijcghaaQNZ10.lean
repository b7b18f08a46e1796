import Derived.Test.YtneilimiijcghaaRows
import Derived.WalkKit
import Derived.ProofKit
import Derived.OpenShut
import Derived.ShutString
import Derived.ChangeOld
import Derived.Below
import Derived.SizedLaws
import Derived.Test.YtneilimiijcghaaQNZ0
import Derived.Test.YtneilimiijcghaaQNZ1
import Derived.Test.YtneilimiijcghaaQNZ2
import Derived.Test.YtneilimiijcghaaQNZ3
import Derived.Test.YtneilimiijcghaaQNZ4
import Derived.Test.YtneilimiijcghaaQNZ5
import Derived.Test.YtneilimiijcghaaQNZ6
import Derived.Test.YtneilimiijcghaaQNZ7
import Derived.Test.YtneilimiijcghaaQNZ8
import Derived.Test.YtneilimiijcghaaQNZ9
namespace Go.Proofs.Ytneilimiijcghaa.St
open Go Go.RowKit Go.ChangeMaps Go.Proofs.Ytneilimiijcghaa.Arr Go.Proofs.Ytneilimiijcghaa.Mp Go.Proofs.Ytneilimiijcghaa.Ow Go.Proofs.Ytneilimiijcghaa.Dk Go.Proofs.YtneilimiijcghaaW.PrintWords Go.Proofs.YtneilimiijcghaaW.PrintLast Go.Proofs.YtneilimiijcghaaW.PrintMore
set_option linter.unusedVariables false
set_option linter.unusedSimpArgs false
theorem loop_bl (s : ByteArray) : ∀ (d i : Nat) (r : List UInt8), i + d = s.size → ByteArray.toList.loop s i r = r.reverse ++ (s.data.toList).drop i := by
  intro d
  induction d with
  | zero =>
    intro i r h
    rw [ByteArray.toList.loop, if_neg (by omega), List.drop_of_length_le (by rw [Array.length_toList]; exact Nat.le_of_eq (by show s.size = i; omega)), List.append_nil]
  | succ d ih =>
    intro i r h
    have hi : i < s.size := by omega
    have hl : i < (s.data.toList).length := by rw [Array.length_toList]; exact hi
    rw [ByteArray.toList.loop, if_pos hi, ih (i + 1) _ (by omega), List.drop_eq_getElem_cons hl, List.reverse_cons, List.append_assoc]
    have e : s.get! i = (s.data.toList)[i] := by
      show s.data[i]! = s.data.toList[i]
      have hd : i < s.data.size := hi
      rw [getElem!_pos s.data i hd]
      exact (Array.getElem_toList hd).symm
    rw [e]
    rfl
theorem toList_bl (s : ByteArray) : s.toList = s.data.toList := by
  show ByteArray.toList.loop s 0 [] = _
  rw [loop_bl s s.size 0 [] (by omega)]
  rfl
theorem toList_eq (a b : ByteArray) : a.toList = b.toList ↔ a = b := by
  constructor
  · intro h
    rw [toList_bl, toList_bl] at h
    cases a; cases b
    simp at h
    rw [h]
  · rintro rfl; rfl
/-- What Read says, by equality of bytes. -/
def readP (d : DS) (base n i : Int) : Int × ByteArray × Int :=
  if i < 0 ∨ n ≤ i then (0, ⟨#[]⟩, 2)
  else if readE d (base + (3 + 2 * i)) ≠ 0 then (0, ⟨#[]⟩, readE d (base + (3 + 2 * i)))
  else if readS d (base + (3 + 2 * i)) = noughts 128 ∧ readS d (base + (3 + 2 * i) + 1) = readS d (base + (3 + 2 * i)) then (0, noughts 220, 0)
  else if (sreadF d (base + (3 + 2 * i)) (2 * i)).2.2.2 = true ∧ (sreadF d (base + (3 + 2 * i + 1)) (2 * i + 1)).2.2.2 = true ∧ (sreadF d (base + (3 + 2 * i)) (2 * i)).1 = (sreadF d (base + (3 + 2 * i + 1)) (2 * i + 1)).1 then
    (if (X12.punF ((sreadF d (base + (3 + 2 * i)) (2 * i)).2.2.1 ++ (sreadF d (base + (3 + 2 * i + 1)) (2 * i + 1)).2.2.1)).2.2 = 0 then X12.punF ((sreadF d (base + (3 + 2 * i)) (2 * i)).2.2.1 ++ (sreadF d (base + (3 + 2 * i + 1)) (2 * i + 1)).2.2.1) else (0, ⟨#[]⟩, 8))
  else (0, ⟨#[]⟩, 8)
theorem readP_eq (d : DS) (base n i : Int) : storeR d base n i = readP d base n i := by
  unfold storeR readP
  simp only [toList_eq]
def awA : DS := { newD 7 with fuse := max 5 (-1) }
def awW : DS := (storeW 0 2 1 1 9 (noughts 220) awA).2.2
theorem aw_w : (storeW 0 2 1 1 9 (noughts 220) awA).1 = 4 ∧ (storeW 0 2 1 1 9 (noughts 220) awA).2.1 = 2 := by decide +kernel
def awC : DS := crashD 0 (fun _ => 0) awW
theorem aw_l : latestF awC 0 (secN 2) = 1 := by decide +kernel
theorem aw_g : awC.gone = false := rfl
theorem aw_r : (repairS 0 2 awC).1 = 0 := by decide +kernel
def awO : DS := (repairS 0 2 awC).2
theorem aw_1 : storeR awO 0 2 1 = (9, noughts 220, 0) := by rw [readP_eq]; decide +kernel
theorem aw_0 : storeR awO 0 2 0 = (0, noughts 220, 0) := by rw [readP_eq]; decide +kernel
theorem aw_n : newOk (newD 7) 0 2 := by unfold newOk; decide +kernel
theorem aw_nc : newOk awC 0 2 := by unfold newOk; decide +kernel
end Go.Proofs.Ytneilimiijcghaa.St
namespace Go.Proofs.Ytneilimiijcghaa.St
open Go.Proofs.Ytneilimiijcghaa.Rgn
open Go Go.RowKit Go.ChangeMaps Go.Proofs.Ytneilimiijcghaa.Arr Go.Proofs.Ytneilimiijcghaa.Mp Go.Proofs.Ytneilimiijcghaa.Ow Go.Proofs.Ytneilimiijcghaa.Dk Go.Proofs.YtneilimiijcghaaW.PrintWords Go.Proofs.YtneilimiijcghaaW.PrintLast Go.Proofs.YtneilimiijcghaaW.PrintMore
set_option linter.unusedVariables false
set_option linter.unusedSimpArgs false
theorem str_noughts : strOfNums (List.replicate 220 0) = noughts 220 := by decide +kernel
theorem refempty_calls (w : World) : Calls Try.prog 11 #[] w fun e w' => e = .returned (.agg #[.int .i64 0, .string (noughts 220)]) ∧ Below w.heap.size w w' :=
  X12.careenref06_Empty.calls 0 (noughts 220) w (by unfold X12.careenref06_Empty.f; rw [if_pos (by decide), str_noughts])
theorem new7 (w : World) : Calls Try.prog 7 #[.int .i64 7] w fun e w' => ∃ g, w.heap.size ≤ g ∧ e = .returned (.tuple #[.pointer (some ⟨g, 0, none⟩), .int .i64 0]) ∧ DK w' (fun k => w.heap.size ≤ k) g (newD 7) ∧ Below w.heap.size w w' := new_calls 7 (by decide) (by decide) w
theorem fld1 (a b : Value) (w : World) : (Instr.field 34 (.agg #[a, b]) 1).run Try.prog w = .ok b w := by kernel_rfl
theorem eqA34 (d : Nat) (w : World) (x0 y0 : Int) (x1 y1 : ByteArray) : (Op.equalIn (d + 2) 34 (.agg #[.int .i64 x0, .string x1]) (.agg #[.int .i64 y0, .string y1])).run Try.prog w = .ok (x0 == y0 && (x1.toList == y1.toList)) w := by
  refine eqA_of Try.underlying34 (by kernel_rfl) ?_
  refine eqf_cons (by rfl) (by go_simp; rfl) (by go_simp; rfl) (by go_simp) ?_
  exact eqf_last (by rfl) (by go_simp; rfl) (by go_simp; rfl) (by go_simp)
attribute [local go_sem] fld1
attribute [local go_sem high] eqA34
theorem aw_oka : OkN 0 awA := ok_arm (ok_new 7 (by decide)) 5 (by decide)
theorem aw_okw : OkD awW := by unfold OkD; decide +kernel
theorem aw_okc : OkN 0 awC := ok_crash (n := 1000) ⟨aw_okw, by decide +kernel⟩
theorem aw_oko : OkN 1000 awO := ⟨by unfold OkD; decide +kernel, by decide +kernel⟩
set_option maxHeartbeats 8000000 in
set_option maxRecDepth 8192 in
theorem awake_calls (w : World) : Calls Try.prog 9 #[] w fun e w' => e = .returned (.bool true) ∧ Below w.heap.size w w' := by
  go_enter Try.func9, Try.ntmps9
  go_upto_region 2 with (go_at_call 7; (with_reducible refine (new7 _).mono ?_); rintro e w1 ⟨g, hg, rfl, hk, hb⟩; have HD1 := Aside0.mk hk; have HB1 := Aside0.mk hb; have HG := Aside0.mk hg; clear hk hb hg)
  have HT1 := Aside0.mk (show Top (fun k => w.heap.size ≤ k) w1 from fun k hk => Nat.le_trans HB1.out.size hk)
  go_upto_region 3 with (go_at_call 8; (with_reducible refine (snew_calls (newD 7) g 0 2 (fun k => w.heap.size ≤ k) _ HD1.out (ok_new 7 (by decide)) (by decide) aw_n).mono ?_); rintro e w2 ⟨gs, rfl, hgs, hk, hb⟩; have HK2 := Aside0.mk hk; have HB2 := Aside0.mk (Arr.below_trans HB1.out hb); have HGS := Aside0.mk hgs; have HT2 := Aside0.mk (HT1.out.next hb.size); clear hk hb hgs)
  go_upto_region 4 with (go_at_call 11; (with_reducible refine (refempty_calls _).mono ?_); rintro e w3 ⟨rfl, hb⟩; have HK3 := Aside0.mk (HK2.out.below hb); have HB3 := Aside0.mk (Arr.below_trans HB2.out hb); have HT3 := Aside0.mk (HT2.out.next hb.size); clear hb)
  have HP := Aside0.mk (heap_alloc_new w3 (.cells #[.int .i64 9, .string (noughts 220)] TP))
  have hba := (Below.refl w3.heap.size w3).alloc (Nat.le_refl _) (.cells #[.int .i64 9, .string (noughts 220)] TP)
  have HGB := Aside0.mk (show gs ≠ w3.heap.size by have := HK3.out.lt; omega)
  have HBW := Aside0.mk (show w.heap.size ≤ w3.heap.size from HB3.out.size)
  have HGW := Aside0.mk (show w.heap.size ≤ gs by have := HGS.out; have := HB1.out.size; omega)
  obtain ⟨S3, hS3⟩ : ∃ S3 : Nat → Prop, S3 = fun k => (w.heap.size ≤ k ∧ k ≠ gs) ∧ k ≠ w3.heap.size := ⟨_, rfl⟩
  have HIN := Aside0.mk (show ∀ k, S3 k → w.heap.size ≤ k from fun k e => by rw [hS3] at e; exact e.1.1)
  have HXB := Aside0.mk (show ¬ S3 w3.heap.size from fun e => by rw [hS3] at e; exact e.2 rfl)
  have HK4 := Aside0.mk ((HK3.out.less (S1 := S3) (fun k hk e => by rw [hS3]; exact ⟨e, by omega⟩) (fun k e => by rw [hS3] at e; exact e.1)).below hba)
  have HB4 := Aside0.mk (Arr.below_trans HB3.out hba)
  have HT4 := Aside0.mk (show Top S3 (w3.alloc (.cells #[.int .i64 9, .string (noughts 220)] TP)) from fun k hk => by
    simp at hk
    rw [hS3]
    have := HK3.out.lt
    have := HBW.out
    exact ⟨⟨by omega, by omega⟩, by omega⟩)
  clear hba hS3 HK3 HB3 HT3 HK2 HB2 HT2 HB1 HT1 HD1 HGS
  generalize w3.alloc (.cells #[.int .i64 9, .string (noughts 220)] TP) = W4 at *
  generalize w3.heap.size = bp at *
  go_upto_region 5 with (go_at_call 14; (with_reducible refine (arm_calls (newD 7) g 5 S3 _ HK4.out.dk).mono ?_); rintro e w5 ⟨rfl, hk, hf⟩; have HK5 := Aside0.mk (show SK w5 S3 gs g 0 2 1 awA from HK4.out.step hf hk); have HB5 := Aside0.mk (hf.to_below HB4.out HIN.out); have HP5 := Aside0.mk (hf.old HP.out HXB.out); have HT5 := Aside0.mk (HT4.out.next hf.size); clear hk hf)
  clear HK4 HB4 HT4 HP
  have p0 : w5.cell? ⟨bp, 0, none⟩ = some (.int .i64 9) := blk_cell HP5.out 0
  have p1 : w5.cell? ⟨bp, 1, none⟩ = some (.string (noughts 220)) := blk_cell HP5.out 1
  go_upto_region 6 with (go_at_call 13; (with_reducible refine (swrite_calls awA g gs 0 2 1 1 9 (noughts 220) S3 _ HT5.out HK5.out aw_oka (by decide) (by decide) (by decide)).mono ?_); rintro e w6 ⟨rfl, hk, hf⟩; rw [aw_w.1]; rw [aw_w.2] at hk; have HK6 := Aside0.mk (show SK w6 S3 gs g 0 2 2 awW from hk); have HB6 := Aside0.mk (hf.to_below HB5.out (fun k e => e.elim (HIN.out k) (fun e2 => e2 ▸ HGW.out))); have HP6 := Aside0.mk (hf.old HP5.out (fun e => e.elim HXB.out (fun e2 => HGB.out e2.symm))); have HT6 := Aside0.mk (HT5.out.next hf.size); clear hk hf p0 p1)
  clear HK5 HB5 HP5 HT5
  go_upto_region 7 with (go_at_call 15; (with_reducible refine (crash_calls awW g none 0 0 (fun _ => 0) S3 _ HT6.out HK6.out.dk aw_okw (pk_nil _ _ _ _) (fun _ => by decide)).mono ?_); rintro e w7 ⟨rfl, hk, hf⟩; have HD7 := Aside0.mk (show DK w7 S3 g awC from hk); have HB7 := Aside0.mk (hf.to_below HB6.out HIN.out); have HP7 := Aside0.mk (hf.old HP6.out HXB.out); have HT7 := Aside0.mk (HT6.out.next hf.size); clear hk hf)
  clear HK6 HB6 HP6 HT6
  go_upto_region 8 with (go_at_call 16; (with_reducible refine (sopen_calls awC g 0 2 S3 _ HT7.out HD7.out aw_okc (by decide) (by decide) aw_nc aw_g (by rw [aw_l]; decide)).mono ?_); rintro e w8 ⟨g2, hg2, rfl, hk, hf⟩; rw [aw_r, show openV 0 g2 = .pointer (some ⟨g2, 0, none⟩) from rfl]; rw [aw_l] at hk; have HK8 := Aside0.mk (show SK w8 (fun k => S3 k ∧ k ≠ g2) g2 g 0 2 2 awO from hk); have HB8 := Aside0.mk (hf.to_below HB7.out HIN.out); have HP8 := Aside0.mk (hf.old HP7.out HXB.out); clear hk hf hg2)
  clear HD7 HB7 HP7 HT7
  go_upto_region 9 with (go_at_call 17; (with_reducible refine (sRead_calls awO g g2 0 2 2 1 _ _ HK8.out aw_oko (by decide)).mono ?_); rintro e w9 ⟨rfl, hb⟩; rw [aw_1]; have HK9 := Aside0.mk (HK8.out.below hb); have HB9 := Aside0.mk (Arr.below_trans HB8.out hb); have HP9 := Aside0.mk ((hb.block _ (blk_lt HP8.out)).trans HP8.out); clear hb)
  have HQ := Aside0.mk (heap_alloc_new w9 (.cells #[.int .i64 9, .string (noughts 220)] TP))
  have hba := (Below.refl w9.heap.size w9).alloc (Nat.le_refl _) (.cells #[.int .i64 9, .string (noughts 220)] TP)
  have HK10 := Aside0.mk (HK9.out.below hba); have HB10 := Aside0.mk (Arr.below_trans HB9.out hba); have HP10 := Aside0.mk ((hba.block _ (blk_lt HP9.out)).trans HP9.out)
  clear hba HK9 HB9 HP9 HK8 HB8 HP8
  generalize w9.alloc (.cells #[.int .i64 9, .string (noughts 220)] TP) = W10 at *
  generalize w9.heap.size = bq at *
  go_upto_region 10 with (go_at_call 17; (with_reducible refine (sRead_calls awO g g2 0 2 2 0 _ _ HK10.out aw_oko (by decide)).mono ?_); rintro e w11 ⟨rfl, hb⟩; rw [aw_0]; have HK11 := Aside0.mk (HK10.out.below hb); have HB11 := Aside0.mk (Arr.below_trans HB10.out hb); have HP11 := Aside0.mk ((hb.block _ (blk_lt HP10.out)).trans HP10.out); have HQ11 := Aside0.mk ((hb.block _ (blk_lt HQ.out)).trans HQ.out); clear hb)
  have HV := Aside0.mk (heap_alloc_new w11 (.cells #[.int .i64 0, .string (noughts 220)] TP))
  have hba := (Below.refl w11.heap.size w11).alloc (Nat.le_refl _) (.cells #[.int .i64 0, .string (noughts 220)] TP)
  have HK12 := Aside0.mk (HK11.out.below hba); have HB12 := Aside0.mk (Arr.below_trans HB11.out hba); have HP12 := Aside0.mk ((hba.block _ (blk_lt HP11.out)).trans HP11.out); have HQ12 := Aside0.mk ((hba.block _ (blk_lt HQ11.out)).trans HQ11.out)
  clear hba HK11 HB11 HP11 HQ11 HK10 HB10 HP10 HQ
  generalize w11.alloc (.cells #[.int .i64 0, .string (noughts 220)] TP) = W12 at *
  generalize w11.heap.size = bv at *
  have HK13 := Aside0.mk HK12.out.drew; have HB13 := Aside0.mk HB12.out.drew
  have HP13 := Aside0.mk (show W12.drew.heap[bp]? = some (.cells #[.int .i64 9, .string (noughts 220)] TP (0, 0)) from HP12.out); have HQ13 := Aside0.mk (show W12.drew.heap[bq]? = some (.cells #[.int .i64 9, .string (noughts 220)] TP (0, 0)) from HQ12.out); have HV13 := Aside0.mk (show W12.drew.heap[bv]? = some (.cells #[.int .i64 0, .string (noughts 220)] TP (0, 0)) from HV.out)
  clear HK12 HB12 HP12 HQ12 HV
  refine start_ (n := 38) (S := fun w' => w'.cell? ⟨bp, 0, none⟩ = some (.int .i64 9) ∧ w'.cell? ⟨bp, 1, none⟩ = some (.string (noughts 220)) ∧ w'.cell? ⟨bq, 0, none⟩ = some (.int .i64 9) ∧ w'.cell? ⟨bq, 1, none⟩ = some (.string (noughts 220)) ∧ w'.cell? ⟨bv, 0, none⟩ = some (.int .i64 0) ∧ w'.cell? ⟨bv, 1, none⟩ = some (.string (noughts 220))) (ds := []) #[false, false, false, false, false, false, false, false, false, false, false, false, false, false, false, false, false, false, false, false, false, false, false, false, false, false, false, false, false, false, false, false, false, false, false, false, false, false] (by kernel_rfl) rfl rfl ⟨blk_cell HP13.out 0, blk_cell HP13.out 1, blk_cell HQ13.out 0, blk_cell HQ13.out 1, blk_cell HV13.out 0, blk_cell HV13.out 1⟩ (fun hHeld => ?_)
  refine one_ (i := 0) (N := some 47) #[true, false, false, false, false, false, false, false, false, false, false, false, false, false, false, false, false, false, false, false, false, false, false, false, false, false, false, false, false, false, false, false, false, false, false, false, false, false] rfl rfl (by kernel_rfl) (by decide) (fun K hK => ?_)
  refine goes_ Try.func18 (by kernel_rfl) rfl #[.int .i64 2] (by rfl) rfl rfl (by (try simp only [List.map_toArray, List.map_cons, List.map_nil]); first | done | rfl) ?_
  refine (sectors_calls 2 (by decide) _).mono ?_
  rintro e v1_ ⟨rfl, hb⟩
  rw [show (secN 2 : Int) = 7 from rfl]
  refine ⟨_, rfl, ?_⟩
  have HK14 := Aside0.mk (HK13.out.below hb); have HB14 := Aside0.mk (Arr.below_trans HB13.out hb); have HP14 := Aside0.mk ((hb.block _ (blk_lt HP13.out)).trans HP13.out); have HQ14 := Aside0.mk ((hb.block _ (blk_lt HQ13.out)).trans HQ13.out); have HV14 := Aside0.mk ((hb.block _ (blk_lt HV13.out)).trans HV13.out)
  clear hb
  refine hK _ _ ⟨blk_cell (w := v1_) HP14.out 0, blk_cell (w := v1_) HP14.out 1, blk_cell (w := v1_) HQ14.out 0, blk_cell (w := v1_) HQ14.out 1, blk_cell (w := v1_) HV14.out 0, blk_cell (w := v1_) HV14.out 1⟩ (fun hHeld => ?_)
  clear hK K
  refine norm_ (a' := ?_) ?_ ?_
  rotate_left
  · show Act.put _ (some 47) _ = _
    simp only [Act.put, List.setIfInBounds_toArray, List.set_cons_zero, List.set_cons_succ, i64_w, i32_w]
    rfl
  refine rgp 1 48 ?_
  refine rgp 2 49 ?_
  refine rgp 3 50 ?_
  refine rgp 4 51 ?_
  refine rgp 5 52 ?_
  refine rgp 6 53 ?_
  refine rgp 7 54 ?_
  refine rgp 8 55 ?_
  refine rgp 9 56 ?_
  refine rgp 10 57 ?_
  refine rgp 11 58 ?_
  refine rgp 12 59 ?_
  refine rgp 13 60 ?_
  refine rgp 14 61 ?_
  refine rgt 15 62 hHeld ?_
  refine rgt 16 63 hHeld ?_
  refine rgp 17 64 ?_
  refine rgp 18 65 ?_
  refine rgp 19 66 ?_
  refine rgp 20 67 ?_
  refine rgp 21 68 ?_
  refine rgp 22 69 ?_
  refine rgp 23 70 ?_
  refine rgt 24 71 hHeld ?_
  refine one_ (i := 25) (N := some 72) #[true, true, true, true, true, true, true, true, true, true, true, true, true, true, true, true, true, true, true, true, true, true, true, true, true, true, false, false, false, false, false, false, false, false, false, false, false, false] rfl rfl (by kernel_rfl) (by decide) (fun K hK => ?_)
  refine goes_ Try.func11 (by kernel_rfl) rfl #[] (by rfl) rfl rfl (by (try simp only [List.map_toArray, List.map_cons, List.map_nil]); first | done | rfl) ?_
  refine (refempty_calls _).mono ?_
  rintro e v2_ ⟨rfl, hb⟩
  skip
  refine ⟨_, rfl, ?_⟩
  have HK15 := Aside0.mk (HK14.out.below hb); have HB15 := Aside0.mk (Arr.below_trans HB14.out hb); have HP15 := Aside0.mk ((hb.block _ (blk_lt HP14.out)).trans HP14.out); have HQ15 := Aside0.mk ((hb.block _ (blk_lt HQ14.out)).trans HQ14.out); have HV15 := Aside0.mk ((hb.block _ (blk_lt HV14.out)).trans HV14.out)
  clear hb
  refine hK _ _ ⟨blk_cell (w := v2_) HP15.out 0, blk_cell (w := v2_) HP15.out 1, blk_cell (w := v2_) HQ15.out 0, blk_cell (w := v2_) HQ15.out 1, blk_cell (w := v2_) HV15.out 0, blk_cell (w := v2_) HV15.out 1⟩ (fun hHeld => ?_)
  clear hK K
  refine norm_ (a' := ?_) ?_ ?_
  rotate_left
  · show Act.put _ (some 72) _ = _
    simp only [Act.put, List.setIfInBounds_toArray, List.set_cons_zero, List.set_cons_succ, i64_w, i32_w]
    rfl
  refine rgp 26 73 ?_
  refine rgp 27 74 ?_
  refine rgp 28 75 ?_
  refine rgp 29 76 ?_
  refine rgp 30 77 ?_
  refine rgp 31 78 ?_
  refine rgp 32 79 ?_
  refine rgp 33 80 ?_
  refine one_ (i := 34) (N := some 81) #[true, true, true, true, true, true, true, true, true, true, true, true, true, true, true, true, true, true, true, true, true, true, true, true, true, true, true, true, true, true, true, true, true, true, true, false, false, false] rfl rfl (by kernel_rfl) (by decide) (fun K hK => ?_)
  refine goes_ Try.func19 (by kernel_rfl) rfl #[.pointer (some ⟨g2, 0, none⟩)] (by rfl) rfl rfl (by (try simp only [List.map_toArray, List.map_cons, List.map_nil]); first | done | rfl) ?_
  refine (ticket_calls awO g g2 0 2 2 _ _ HK15.out (by decide)).mono ?_
  rintro e v3_ ⟨rfl, hb⟩
  skip
  refine ⟨_, rfl, ?_⟩
  have HK16 := Aside0.mk (HK15.out.below hb); have HB16 := Aside0.mk (Arr.below_trans HB15.out hb); have HP16 := Aside0.mk ((hb.block _ (blk_lt HP15.out)).trans HP15.out); have HQ16 := Aside0.mk ((hb.block _ (blk_lt HQ15.out)).trans HQ15.out); have HV16 := Aside0.mk ((hb.block _ (blk_lt HV15.out)).trans HV15.out)
  clear hb
  refine hK _ _ ⟨blk_cell (w := v3_) HP16.out 0, blk_cell (w := v3_) HP16.out 1, blk_cell (w := v3_) HQ16.out 0, blk_cell (w := v3_) HQ16.out 1, blk_cell (w := v3_) HV16.out 0, blk_cell (w := v3_) HV16.out 1⟩ (fun hHeld => ?_)
  clear hK K
  refine norm_ (a' := ?_) ?_ ?_
  rotate_left
  · show Act.put _ (some 81) _ = _
    simp only [Act.put, List.setIfInBounds_toArray, List.set_cons_zero, List.set_cons_succ, i64_w, i32_w]
    rfl
  refine rgp 35 82 ?_
  refine rgp 36 83 ?_
  refine rgp 37 0 ?_
  refine done_ (by kernel_rfl) ?_
  go_wp2
  go_ret
  exact ⟨rfl, HB16.out⟩
end Go.Proofs.Ytneilimiijcghaa.St
namespace Go.Proofs.Ytneilimiijcghaa.X12
open Go Go.RowKit Go.ChangeMaps Go.Proofs.Ytneilimiijcghaa.Arr Go.Proofs.Ytneilimiijcghaa.Mp Go.Proofs.Ytneilimiijcghaa.Ow Go.Proofs.Ytneilimiijcghaa.Dk Go.Proofs.Ytneilimiijcghaa.St Go.Proofs.YtneilimiijcghaaW.PrintWords Go.Proofs.YtneilimiijcghaaW.PrintLast Go.Proofs.YtneilimiijcghaaW.PrintMore
set_option linter.unusedVariables false
set_option linter.unusedSimpArgs false
theorem sectors_neg (i : Int) (w : World) : Calls Try.prog 18 #[.int .i64 (min i (-1))] w fun e w' => e = .returned (.int .i64 0) ∧ Below w.heap.size w w' := by
  refine (store_Sectors.calls (min i (-1)) 0 w ?_).mono fun e w' ⟨he, hd⟩ => ⟨he, hd.below⟩
  unfold store_Sectors.f
  rw [if_pos (by omega)]
theorem blkb {w w' : World} {k : Nat} {o : Obj} (h : w.heap[k]? = some o) (hb : Below w.heap.size w w') : w'.heap[k]? = some o := (hb.block _ (St.blk_lt h)).trans h
set_option maxHeartbeats 8000000 in
set_option maxRecDepth 8192 in
theorem snil_walk (i a : Int) (b : ByteArray) (w : World) : Calls Try.prog 6 #[.int .i64 i, .agg #[.int .i64 a, .string b]] w fun e w' => e = .returned (.bool true) ∧ Below w.heap.size w w' := by
  have HB := Aside0.mk (Below.refl w.heap.size w)
  go_enter Try.func6, Try.ntmps6
  go_upto_region 1 with (fail)
  have HP := Aside0.mk (heap_alloc_new w (.cells #[.int .i64 a, .string b] 34))
  have HB_n := Aside0.mk (HB.out.alloc (Nat.le_refl _) (.cells #[.int .i64 a, .string b] 34))
  clear HB
  have HB := HB_n; clear HB_n
  generalize w.alloc (.cells #[.int .i64 a, .string b] 34) = W at *
  go_upto_region 3 with (go_at_call 17; (with_reducible refine (sread_nil _ _).mono ?_); rintro e w1 ⟨rfl, hb1⟩; have hb2 := Arr.below_trans hb1 ((Below.refl w1.heap.size w1).alloc (Nat.le_refl _) (.cells #[.int .i64 0, .string ⟨#[]⟩] 34)); have HB_n := Aside0.mk (Arr.below_trans HB.out hb2); have HP_n := Aside0.mk (blkb HP.out hb2); clear HB HP hb1 hb2; have HB := HB_n; have HP := HP_n; clear HB_n HP_n)
  generalize w1.alloc (.cells #[.int .i64 0, .string ⟨#[]⟩] 34) = X at *
  go_upto_region 4 with (go_at_call 8; (with_reducible refine (new_nil _ _ _).mono ?_); rintro e w2 ⟨rfl, hb1⟩; have HB_n := Aside0.mk (Arr.below_trans HB.out hb1); have HP_n := Aside0.mk (blkb HP.out hb1); clear HB HP hb1; have HB := HB_n; have HP := HP_n; clear HB_n HP_n)
  go_upto_region 5 with (go_at_call 16; (with_reducible refine (open_nil _ _ _).mono ?_); rintro e w3 ⟨rfl, hb1⟩; have HB_n := Aside0.mk (Arr.below_trans HB.out hb1); have HP_n := Aside0.mk (blkb HP.out hb1); clear HB HP hb1; have HB := HB_n; have HP := HP_n; clear HB_n HP_n)
  go_wp2_with (first
    | (go_at_call 9; (with_reducible refine (awake_calls _).mono ?_); rintro e w4 ⟨rfl, hb1⟩; have HB_n := Aside0.mk (Arr.below_trans HB.out hb1); have HP_n := Aside0.mk (blkb HP.out hb1); clear HB HP hb1; have HB := HB_n; have HP := HP_n; clear HB_n HP_n; have p0 : w4.cell? ⟨w.heap.size, 0, none⟩ = some (.int .i64 a) := blk_cell HP.out 0; have p1 : w4.cell? ⟨w.heap.size, 1, none⟩ = some (.string b) := blk_cell HP.out 1)
    | (go_at_call 13; (with_reducible refine (write_nil _ _ _ _).mono ?_); rintro e w5 ⟨rfl, hb1⟩; have HB_n := Aside0.mk (Arr.below_trans HB.out hb1); clear HB hb1; have HB := HB_n; clear HB_n)
    | (go_at_call 20; (with_reducible refine (St.lose_nil _ _).mono ?_); rintro e w6 ⟨rfl, hb1⟩; have HB_n := Aside0.mk (Arr.below_trans HB.out hb1); clear HB hb1; have HB := HB_n; clear HB_n)
    | (go_at_call 21; (with_reducible refine (pages_nil _).mono ?_); rintro e w7 ⟨rfl, hb1⟩; have HB_n := Aside0.mk (Arr.below_trans HB.out hb1); clear HB hb1; have HB := HB_n; clear HB_n)
    | (go_at_call 19; (with_reducible refine (ticket_nil _).mono ?_); rintro e w8 ⟨rfl, hb1⟩; have HB_n := Aside0.mk (Arr.below_trans HB.out hb1); clear HB hb1; have HB := HB_n; clear HB_n)
    | (go_at_call 18; (with_reducible refine (sectors_neg _ _).mono ?_); rintro e w9 ⟨rfl, hb1⟩; have HB_n := Aside0.mk (Arr.below_trans HB.out hb1); clear HB hb1; have HB := HB_n; clear HB_n))
  go_ret
  exact ⟨rfl, HB.out⟩
def careenlaw07_StoreNil.f (a0 a1_0 : Int) (a1_1 : ByteArray) : Option Bool := some true
theorem careenlaw07_StoreNil.calls (a0 a1_0 : Int) (a1_1 : ByteArray) (r : Bool) (w : World) (h : careenlaw07_StoreNil.f a0 a1_0 a1_1 = some r) :
    Calls Try.prog 6 #[.int .i64 a0, .agg #[.int .i64 a1_0, .string a1_1]] w fun e w' => e = .returned (.bool r) ∧ Below w.heap.size w w' := by
  obtain rfl := Option.some.inj h
  exact snil_walk a0 a1_0 a1_1 w
end Go.Proofs.Ytneilimiijcghaa.X12
namespace Go.Proofs.Ytneilimiijcghaa.X12.RowStoreNil
open Go.ChangeShapes Go.WideShapes Go.ChangeAt Go.RowKit Go.Proofs.Ytneilimiijcghaa.Opens Go.Proofs.YtneilimiijcghaaW.PrintWords
open Go.ChangeMaps (open_string shut_string)
set_option linter.unusedVariables false
theorem own : ownKnob Try.prog.godebug = none := by kernel_rfl
theorem laidOut : laidOutB Try.prog = true := by kernel_rfl
def W34 (x : S34) : Prop := (Lit.int .i64 x.f0).wf = true ∧ x.f1.size ≤ 140737488351232
set_option maxRecDepth 100000 in
theorem opens34 : Opens Try.prog 34 k34 W34 := opens_iso (opens_struct Try.underlying34 (by kernel_rfl) (by kernel_rfl) (opensF_cons (opens_int Try.underlying3) (opensF_one (opens_string Try.underlying9)))) (fun x : S34 => (x.f0, x.f1)) (fun p => ⟨p.1, p.2⟩) (fun _ => rfl)
/-- The statement, over plain values. -/
def Pure : Prop := ∀ (x0 : Int) (x1 : S34), (Lit.int .i64 x0).wf = true → W34 x1 → ∃ k : Nat, careenlaw07_StoreNil.f x0 (x1.f0) (x1.f1) = some true
set_option maxRecDepth 100000 in
theorem lifted (PU : Pure) (os : Os) (started : os.Started) (H : Type) (enc : TypeId × Value → H) :
    ReturnsInHanded {} Try.checked os 6 .any (Rows.storeNilSpec.pre6 enc Try.prog Try.f6 Rows.storeNilRow.domain false) (Rows.storeNilSpec.post enc Try.prog Try.f6 false true false false) := by
  refine returnsInHanded_of_change_sized (C := Try.checked) own started (by kernel_rfl) Try.func6
    (ChangeSpec.witness6 (enc := enc) (C := Try.checked) false ⟨#[], #[.int .i64 0, .agg #[.int .i64 0, .string ByteArray.empty]], []⟩ 8 (by kernel_rfl) (by kernel_rfl) (by kernel_rfl) (by kernel_rfl)) ?_
  intro W base args ds gs before hval0 hW hcnd hsz0 _
  have hsz : (DataW.weightsEach Try.prog (Try.f6.params.toList ++ Rows.storeNilSpec.plain.varTypes Try.prog) (ds ++ gs)).all (· ≤ reachBytes) = true := hsz0
  have hval : ∀ (j : Nat) t v, Try.f6.params[j]? = some t → args[j]? = some v → Value.okWide Try.prog W .any base t v := hval0
  have hW' := hW
  obtain ⟨p, q, hA0, hV, rfl, hfz, hnd⟩ := hW
  have hA : DataW.TrodAll enc Try.prog W 0 (fun _ => true) true Try.f6.params.toList args.toList ds p := hA0
  rw [Try.params6] at hA hval hsz
  obtain ⟨v0, vs0, d0, ds0, p0, q0, hargs, rfl, rfl, h0, r0⟩ := trodAll_cons hA
  obtain ⟨v1, vs1, d1, ds1, p1, q1, rfl, rfl, rfl, h1, r1⟩ := trodAll_cons r0
  obtain ⟨rfl, rfl, rfl⟩ := trodAll_nil r1
  obtain rfl : args = #[v0, v1] := by cases args; simp_all
  obtain ⟨rfl, rfl⟩ := trodVars_none hV
  have kk0 := h0
  have lt0 : ∀ x ∈ p0, x.block < W.heap.size := by obtain ⟨m, hm⟩ := kk0; exact DataW.trod_lt m _ _ _ hm
  obtain ⟨x0, hk0, w0⟩ : ∃ x, (Kd.int .i64).K W x v0.cells.toList ∧ (Lit.int .i64 x).wf = true := by
    obtain ⟨fuel, hf⟩ := h0
    exact (opens_int Try.underlying3) hf (fun n hn => by simpa using List.all_eq_true.1 hsz n (DataW.weights_mem_each (j := 0) (t := 3) (d := d0) rfl rfl n hn))
  obtain ⟨z0, rfl⟩ := okWide_int Try.underlying3 (hval 0 3 v0 rfl rfl)
  obtain rfl : z0 = x0 := by
    have e : [Value.int .i64 z0] = [Value.int .i64 x0] := hk0
    simpa using e
  have kk1 := h1
  have lt1 : ∀ x ∈ p1, x.block < W.heap.size := by obtain ⟨m, hm⟩ := kk1; exact DataW.trod_lt m _ _ _ hm
  obtain ⟨x1, hk1, w1⟩ : ∃ x, k34.K W x v1.cells.toList ∧ W34 x := by
    obtain ⟨fuel, hf⟩ := h1
    exact opens34 hf (fun n hn => by simpa using List.all_eq_true.1 hsz n (DataW.weights_mem_each (j := 1) (t := 34) (d := d1) rfl rfl n hn))
  obtain ⟨cs1, rfl, hsz1⟩ := okWide_struct Try.underlying34 (hval 1 34 v1 rfl rfl)
  have e1 := k34_open hk1
  obtain rfl : cs1 = #[.int .i64 x1.f0, .string x1.f1] := by apply Array.toList_inj.1; simpa [Value.cells] using e1
  clear hA0 hval0 hsz0 hsz
  obtain ⟨k, h⟩ := PU z0 x1 w0 w1
  refine (careenlaw07_StoreNil.calls (a0 := z0) (a1_0 := x1.f0) (a1_1 := x1.f1) (r := true) (w := W)  (h := h)).mono fun e W' ⟨he, bel0⟩ => ?_
  have bel : Below W.heap.size W W' := bel0
  subst he
  exact ⟨_, rfl, _, _, _, [], _, [], hW', trodAll_mk1 (shut_bool Try.underlying4 _), (trodAll_cons_mk (Below.trod laidOut (by kernel_rfl) (of_decide_eq_true (by kernel_rfl)) kk0 bel lt0) (trodAll_cons_mk (Below.trod laidOut (by kernel_rfl) (of_decide_eq_true (by kernel_rfl)) kk1 bel lt1) trodAll_mk0)), rfl, bel.frame _, fun h => by cases h⟩
/-- The row follows from the plain statement. -/
theorem holds (PU : Pure) : Rows.StoreNilSaid :=
  OpenClaim.holds_of_wide 6 Try.f6 rfl rfl rfl rfl rfl rfl rfl ⟨rfl, rfl, rfl, rfl, rfl⟩ rfl rfl rfl rfl rfl (by kernel_rfl) Try.func6 (by kernel_rfl)
    (of_decide_eq_true (by kernel_rfl)) (by unfold Func.isWrapper; first | (rw [if_pos (by decide +kernel)]; kernel_rfl) | (rw [if_neg (by decide +kernel)]; exact ⟨rfl, rfl⟩))
    (fun os started H enc _ => lifted PU os started H enc)
end Go.Proofs.Ytneilimiijcghaa.X12.RowStoreNil
