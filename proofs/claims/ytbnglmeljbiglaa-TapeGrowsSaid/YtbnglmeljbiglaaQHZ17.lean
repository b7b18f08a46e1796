import Derived.Test.YtbnglmeljbiglaaQHZ0
import Derived.Test.YtbnglmeljbiglaaQHZ1
import Derived.Test.YtbnglmeljbiglaaQHZ2
import Derived.Test.YtbnglmeljbiglaaQHZ3
import Derived.Test.YtbnglmeljbiglaaQHZ4
import Derived.Test.YtbnglmeljbiglaaQHZ5
import Derived.Test.YtbnglmeljbiglaaQHZ6
import Derived.Test.YtbnglmeljbiglaaQHZ7
import Derived.Test.YtbnglmeljbiglaaQHZ8
import Derived.Test.YtbnglmeljbiglaaQHZ9
import Derived.Test.YtbnglmeljbiglaaQHZ10
import Derived.Test.YtbnglmeljbiglaaQHZ11
import Derived.Test.YtbnglmeljbiglaaQHZ12
import Derived.Test.YtbnglmeljbiglaaQHZ13
import Derived.Test.YtbnglmeljbiglaaQHZ14
import Derived.Test.YtbnglmeljbiglaaQHZ15
import Derived.Test.YtbnglmeljbiglaaQHZ16
set_option maxRecDepth 8192
namespace Go.Proofs.Ytbnglmeljbiglaa.X4
open Go.Proofs.Ytbnglmeljbiglaa.Rgn
open Go.Proofs.Ytbnglmeljbiglaa.Pt Go.Proofs.Ytbnglmeljbiglaa.Ptb Go.Proofs.Ytbnglmeljbiglaa.Rp Go.Proofs.Ytbnglmeljbiglaa.Wl Go Go.RowKit Go.ChangeMaps Go.Proofs.Ytbnglmeljbiglaa.Arr Go.Proofs.Ytbnglmeljbiglaa.Mp Go.Proofs.Ytbnglmeljbiglaa.Ow Go.Proofs.Ytbnglmeljbiglaa.Dk Go.Proofs.Ytbnglmeljbiglaa.Fr Go.Proofs.YtbnglmeljbiglaaW.PrintWords Go.Proofs.YtbnglmeljbiglaaW.PrintLast Go.Proofs.YtbnglmeljbiglaaW.PrintMore
set_option linter.unusedVariables false
set_option linter.unusedSimpArgs false
set_option maxHeartbeats 16000000 in
set_option maxRecDepth 20000 in
theorem grows_walk (n : Int) (A0 : Option Addr) (c0 : Nat) (l : List S71) (w : World) (hr : Kd.C k71 w A0 l.length l) (hc0 : l.length ≤ c0) : Calls Try.prog 9 #[.int .i64 n, .slice A0 l.length c0] w fun e w' => e = .returned (.bool true) ∧ Below w.heap.size w w' := by
  have hm := Kd.C_max hr
  have HR := Aside0.mk hr; have HC0 := Aside0.mk hc0; have HE := Aside0.mk (show (1 : Int) < 4294967290 by decide)
  clear hr hc0
  have G := Aside0.mk (Gr.refl w)
  go_enter Try.func9, Try.ntmps9
  have hi := Lv.mod_ok 20 n (by decide) (by decide)
  have hwn : wrap64 (8 + wrap64 ((IntKind.u64.wrap n).tmod 20)) = 8 + wrap64 ((IntKind.u64.wrap n).tmod 20) := by
    generalize wrap64 ((IntKind.u64.wrap n).tmod 20) = z at *
    unfold wrap64; omega
  go_upto_region 2 with (fail)
  (try simp only [hwn])
  clear hwn
  obtain ⟨N, hN⟩ : ∃ N : Nat, 8 + wrap64 ((IntKind.u64.wrap n).tmod 20) = (N : Int) := ⟨(8 + wrap64 ((IntKind.u64.wrap n).tmod 20)).toNat, by omega⟩
  (try rw [hN])
  have hn8 : 8 ≤ N ∧ N ≤ 27 := by omega
  clear hN hi
  have HNa := Aside0.mk (show 1 ≤ N by omega); have HNb := Aside0.mk (show N ≤ 512 by omega); have HNi := Aside0.mk (show -9223372036854775808 ≤ (N : Int) ∧ (N : Int) < 9223372036854775808 by omega)
  have HQ := Aside0.mk (qs_new (n := (N : Int)) (L := N) (by omega) (Int.le_refl _) (by omega))
  clear hn8
  go_upto_region 3 with (go_at_call 11; (with_reducible refine (newdiskG N HNa.out HNb.out G.out).mono ?_); rintro e w1 ⟨g, rfl, hk, hf⟩; have G_n := Aside0.mk (G.out.step hf (by decide)); clear G; have G := G_n; clear G_n; have HD := Aside0.mk hk; clear hk hf)
  go_upto_region 4 with (go_at_call 12; (with_reducible refine (lnew_calls HD.out HQ.out.ok 0 (N : Int) (by decide) HNi.out HQ.out.lies).mono ?_); rintro e w1 ⟨gl, m, c1, rfl, hf, hl, hd⟩; have G_n := Aside0.mk (G.out.step hf (by decide)); clear G; have G := G_n; clear G_n; clear HD; have HD := Aside0.mk hd; have HL := Aside0.mk hl; clear hl hd hf)
  generalize newD N = d0 at *
  generalize hW0 : newW 0 (N : Int) = W0 at *
  generalize (fun _ => [] : Int → List Rc_) = R0 at *
  generalize (fun _ => 0 : Int → Int) = e0 at *
  have HF0 := Aside0.mk (show W0.first = 1 by rw [← hW0])
  clear hW0
  cases hlg : L15.longF l with
  | true =>
    go_wp2_with (first | (go_at_call 33; (with_reducible refine (awake15_calls _).mono ?_); rintro e w1 ⟨rfl, hb1⟩; have G_n := Aside0.mk (G.out.below hb1); have HD_n := Aside0.mk (HD.out.below hb1); have HL_n := Aside0.mk (HL.out.below hb1); clear G HD HL; have G := G_n; have HD := HD_n; have HL := HL_n; clear G_n HD_n HL_n; clear hb1) | (go_at_call 34; (with_reducible refine (L15.long_calls _ _ _ _ (Kd.C_below HR.out G.out.bel) HC0.out).mono ?_); rintro e w1 ⟨rfl, hb1⟩; have G_n := Aside0.mk (G.out.below hb1); have HD_n := Aside0.mk (HD.out.below hb1); have HL_n := Aside0.mk (HL.out.below hb1); clear G HD HL; have G := G_n; have HD := HD_n; have HL := HL_n; clear G_n HD_n HL_n; clear hb1))
    go_ret
    exact ⟨rfl, G.out.bel⟩
  | false =>
    have HLG := Aside0.mk (L15.long_no hlg)
    go_upto_region 6 with (first | (go_at_call 33; (with_reducible refine (awake15_calls _).mono ?_); rintro e w1 ⟨rfl, hb1⟩; have G_n := Aside0.mk (G.out.below hb1); have HD_n := Aside0.mk (HD.out.below hb1); have HL_n := Aside0.mk (HL.out.below hb1); clear G HD HL; have G := G_n; have HD := HD_n; have HL := HL_n; clear G_n HD_n HL_n; clear hb1) | (go_at_call 34; (with_reducible refine (L15.long_calls _ _ _ _ (Kd.C_below HR.out G.out.bel) HC0.out).mono ?_); rintro e w1 ⟨rfl, hb1⟩; have G_n := Aside0.mk (G.out.below hb1); have HD_n := Aside0.mk (HD.out.below hb1); have HL_n := Aside0.mk (HL.out.below hb1); clear G HD HL; have G := G_n; have HD := HD_n; have HL := HL_n; clear G_n HD_n HL_n; clear hb1))
    clear hlg
    go_upto_region 7 with (go_at_call 35; (with_reducible refine (tnew_calls G.out).mono ?_); rintro e w1 ⟨gt, c1, rfl, hf, ht⟩; have G_n := Aside0.mk (G.out.step hf (by decide)); have HD_n := Aside0.mk (dk_keep HD.out hf (by decide)); have HL_n := Aside0.mk (HL.out.keep hf (by decide)); clear G HD HL; have G := G_n; have HD := HD_n; have HL := HL_n; clear G_n HD_n HL_n; have HT := Aside0.mk ht; clear ht hf)
    go_upto_region 8 with (fail)
    go_loopw [53] (fun v wr => ∃ (r : Nat) (W : WS) (R : Int → List Rc_) (d : DS) (e : Int → Int) (c : Nat → Nat) (E : Int) (tv : Value) (xs : List En_), v = .int .i64 r ∧ Aside0 (r ≤ l.length) ∧ Aside0 (Gr w wr c) ∧ Aside0 (LO wr c gl m g W) ∧ Aside0 (DK wr (Col c 1) g d) ∧ Aside0 (Qs (N : Int) 1 W R d e) ∧ Aside0 (TP w wr c gt E tv xs) ∧ Aside0 (1 ≤ E ∧ E ≤ W.first) ∧ Aside0 (OnT W xs) ∧ Aside0 (xs.length ≤ r * 1000000)) (fun v _ => l.length - (intOf v).toNat)
    case atStart => exact ⟨0, _, _, _, _, _, _, _, _, rfl, ⟨by omega⟩, G, HL, HD, HQ, HT, ⟨by have := HF0.out; omega⟩, ⟨fun x hx => by cases hx⟩, ⟨Nat.zero_le _⟩⟩
    case round =>
      clear G HL HD HQ HT HF0
      obtain ⟨r, W, R, d, e, c, E, tv, xs, rfl, HRL, G, HL, HD, HQ, HT, HEE, HON, HLN⟩ := hrel
      by_cases hlt : r < l.length
      · skip
        have h1 : (r : Int) < (l.length : Int) := by omega
        have hwk : wrap64 ((r : Int) + 1) = ((r + 1 : Nat) : Int) := by unfold wrap64; omega
        have HLT := Aside0.mk hlt
        have HXL := Aside0.mk (show xs.length ≤ 1000000000 by have := HLN.out; have := HLG.out.1; omega)
        obtain ⟨ad, A11, c11, A12, c12, A13, c13, hA0, q0, q1, q2, q3, q4, q5, q6, q7, q8, q9, q10, q11, q12, q13, l11, g11, l12, g12, l13, g13⟩ := at_T71 HR.out (r : Int) (by omega) h1
        subst hA0
        replace q0 := pw_cell_below G.out.bel q0
        replace q1 := pw_cell_below G.out.bel q1
        replace q2 := pw_cell_below G.out.bel q2
        replace q3 := pw_cell_below G.out.bel q3
        replace q4 := pw_cell_below G.out.bel q4
        replace q5 := pw_cell_below G.out.bel q5
        replace q6 := pw_cell_below G.out.bel q6
        replace q7 := pw_cell_below G.out.bel q7
        replace q8 := pw_cell_below G.out.bel q8
        replace q9 := pw_cell_below G.out.bel q9
        replace q10 := pw_cell_below G.out.bel q10
        replace q11 := pw_cell_below G.out.bel q11
        replace q12 := pw_cell_below G.out.bel q12
        replace q13 := pw_cell_below G.out.bel q13
        rw [Int.toNat_natCast] at q0 q1 q2 q3 q4 q5 q6 q7 q8 q9 q10 q11 q12 q13
        have HZ := Aside0.mk (few_le (HLG.out.2 _ (L15.rd_mem hlt)).1)
        have H11 := Aside0.mk g11; have H12 := Aside0.mk g12; have L11 := Aside0.mk l11; have L12 := Aside0.mk l12
        clear l11 g11 l12 g12 l13 g13
        generalize rd_T71 l (r : Nat) = o_ at *
        go_upto_region 10 with (fail)
        have hf := fr_alloc [] wr c 4 (.cells #[.int .i64 o_.f0, .int .i64 o_.f1, .int .i64 o_.f2.f0, .int .i64 o_.f2.f1, .int .i64 o_.f2.f2, .int .i64 o_.f2.f3, .int .i64 o_.f2.f4, .int .i64 o_.f2.f5, .int .i64 o_.f2.f6, .string o_.f2.f7, .string o_.f2.f8, .slice A11 o_.f2.f9.length c11, .slice A12 o_.f2.f10.length c12, .slice A13 o_.f3.length c13] 71)
        have G_n := Aside0.mk (G.out.step hf (by decide)); have HD_n := Aside0.mk (dk_keep HD.out hf (by decide)); have HL_n := Aside0.mk (HL.out.keep hf (by decide)); have HT_n := Aside0.mk (TP.keep HT.out G.out hf (by decide) (by decide) (by decide)); clear G HD HL HT; have G := G_n; have HD := HD_n; have HL := HL_n; have HT := HT_n; clear G_n HD_n HL_n HT_n
        have LB := Aside0.mk (loc_alloc wr c 4 #[.int .i64 o_.f0, .int .i64 o_.f1, .int .i64 o_.f2.f0, .int .i64 o_.f2.f1, .int .i64 o_.f2.f2, .int .i64 o_.f2.f3, .int .i64 o_.f2.f4, .int .i64 o_.f2.f5, .int .i64 o_.f2.f6, .string o_.f2.f7, .string o_.f2.f8, .slice A11 o_.f2.f9.length c11, .slice A12 o_.f2.f10.length c12, .slice A13 o_.f3.length c13] 71)
        clear hf
        generalize Dk.paint c wr.heap.size 4 = cLB at *
        generalize wr.alloc (.cells #[.int .i64 o_.f0, .int .i64 o_.f1, .int .i64 o_.f2.f0, .int .i64 o_.f2.f1, .int .i64 o_.f2.f2, .int .i64 o_.f2.f3, .int .i64 o_.f2.f4, .int .i64 o_.f2.f5, .int .i64 o_.f2.f6, .string o_.f2.f7, .string o_.f2.f8, .slice A11 o_.f2.f9.length c11, .slice A12 o_.f2.f10.length c12, .slice A13 o_.f3.length c13] 71) = W4 at *
        generalize wr.heap.size = ob at *
        clear q0 q1 q2 q3 q4 q5 q6 q7 q8 q9 q10 q11 q12 q13
        go_upto_region 11 with (first | (go_at_call 36; (with_reducible refine (tlist_calls HT.out G.out HXL.out).mono ?_); rintro e w1 ⟨v2, c2, rfl, hf, hn, ho⟩; obtain ⟨A2, cp2, hv2⟩ := Kd.N_slice hn; subst hv2; have HWN_ := Aside0.mk hn; have G_n := Aside0.mk (G.out.step hf (by decide)); have HD_n := Aside0.mk (dk_keep HD.out hf (by decide)); have HL_n := Aside0.mk (HL.out.keep hf (by decide)); have HT_n := Aside0.mk (TP.keep HT.out G.out hf (by decide) (by decide) (by decide)); have LB_n := Aside0.mk (LB.out.keep hf (by decide)); clear G HD HL HT LB; have G := G_n; have HD := HD_n; have HL := HL_n; have HT := HT_n; have LB := LB_n; clear G_n HD_n HL_n HT_n LB_n; have HWN := HWN_; clear HWN_ hn hf ho) | (go_at_call 37; (with_reducible refine (upto_calls HT.out).mono ?_); rintro e w1 ⟨rfl, hb1⟩; have G_n := Aside0.mk (G.out.below hb1); have HD_n := Aside0.mk (HD.out.below hb1); have HL_n := Aside0.mk (HL.out.below hb1); have HT_n := Aside0.mk (TP.below HT.out hb1); have LB_n := Aside0.mk (LB.out.below hb1); have HWN_n := Aside0.mk (Kd.N_below HWN.out hb1); clear G HD HL HT LB HWN; have G := G_n; have HD := HD_n; have HL := HL_n; have HT := HT_n; have LB := LB_n; have HWN := HWN_n; clear G_n HD_n HL_n HT_n LB_n HWN_n; clear hb1))
        have hcs := LB.out.blk
        have q0 : w1.cell? ⟨ob, 0, none⟩ = some (.int .i64 o_.f0) := blk_cell hcs 0
        have q1 : w1.cell? ⟨ob, 1, none⟩ = some (.int .i64 o_.f1) := blk_cell hcs 1
        have q2 : w1.cell? ⟨ob, 2, none⟩ = some (.int .i64 o_.f2.f0) := blk_cell hcs 2
        have q3 : w1.cell? ⟨ob, 3, none⟩ = some (.int .i64 o_.f2.f1) := blk_cell hcs 3
        have q4 : w1.cell? ⟨ob, 4, none⟩ = some (.int .i64 o_.f2.f2) := blk_cell hcs 4
        have q5 : w1.cell? ⟨ob, 5, none⟩ = some (.int .i64 o_.f2.f3) := blk_cell hcs 5
        have q6 : w1.cell? ⟨ob, 6, none⟩ = some (.int .i64 o_.f2.f4) := blk_cell hcs 6
        have q7 : w1.cell? ⟨ob, 7, none⟩ = some (.int .i64 o_.f2.f5) := blk_cell hcs 7
        have q8 : w1.cell? ⟨ob, 8, none⟩ = some (.int .i64 o_.f2.f6) := blk_cell hcs 8
        have q9 : w1.cell? ⟨ob, 9, none⟩ = some (.string o_.f2.f7) := blk_cell hcs 9
        have q10 : w1.cell? ⟨ob, 10, none⟩ = some (.string o_.f2.f8) := blk_cell hcs 10
        have q11 : w1.cell? ⟨ob, 11, none⟩ = some (.slice A11 o_.f2.f9.length c11) := blk_cell hcs 11
        have q12 : w1.cell? ⟨ob, 12, none⟩ = some (.slice A12 o_.f2.f10.length c12) := blk_cell hcs 12
        have q13 : w1.cell? ⟨ob, 13, none⟩ = some (.slice A13 o_.f3.length c13) := blk_cell hcs 13
        clear hcs
        by_cases hk : o_.f0 = 1
        · have hk1 : (o_.f0 == (1 : Int)) = true := beq_iff_eq.2 hk
          have HWAS := Aside0.mk (nl_of HWN.out); clear HWN
          obtain ⟨p, er, W', R', e1, e2, e3, ha, hq⟩ := HQ.out.app o_.f2
          have HA3 := Aside0.mk e3; have HAF := Aside0.mk ha.first; have HQ2 := Aside0.mk hq
          clear e1 e2 e3 ha hq
          go_upto_region 19 with (go_at_call 15; (with_reducible refine (append_calls HL.out (HQ.out.fit HE.out) HQ.out.bd1 o_.f2 A11 c11 A12 c12 (Kd.C_below H11.out G.out.bel) L11.out (Kd.C_below H12.out G.out.bel) L12.out HZ.out).mono ?_); rintro e w1 ⟨rfl, hf, hl⟩; rw [HA3.out] at hl; have G_n := Aside0.mk (G.out.step hf (by decide)); have HD_n := Aside0.mk (dk_keep HD.out hf (by decide)); have HT_n := Aside0.mk (TP.keep HT.out G.out hf (by decide) (by decide) (by decide)); have HWAS_n := Aside0.mk (NL.keep HWAS.out G.out hf (by decide) (by decide)); clear G HD HT HWAS; have G := G_n; have HD := HD_n; have HT := HT_n; have HWAS := HWAS_n; clear G_n HD_n HT_n HWAS_n; clear HL; have HL := Aside0.mk hl; clear hl hf)
          (try clear q0 q1 q2 q3 q4 q5 q6 q7 q8 q9 q10 q11 q12 q13)
          clear hk hk1 HQ LB
          have HQ := HQ2
          clear HQ2
          have HON2 := Aside0.mk (HON.out.more (W' := W') (by rw [HAF.out]; exact Int.le_refl _)); have HEE2 := Aside0.mk (show E ≤ E ∧ 1 ≤ E ∧ E ≤ W'.first by rw [HAF.out]; have := HEE.out; omega)
          have HZX := Aside0.mk (show xs.length ≤ xs.length ∧ xs.take xs.length = xs from ⟨Nat.le_refl _, List.take_length⟩)
          have HLN2 := Aside0.mk (show xs.length ≤ (r + 1) * 1000000 from Nat.le_trans HLN.out (Nat.mul_le_mul_right _ (Nat.le_succ r)))
          have HXL2 := Aside0.mk (show xs.length ≤ 1000000000 from Nat.le_trans HLN2.out (Nat.le_trans (Nat.mul_le_mul_right _ (show r + 1 ≤ 200 by have := HLG.out.1; have := HLT.out; omega)) (by decide)))
          go_upto_region 20 with (go_at_call 36; (with_reducible refine (tlist_calls HT.out G.out HXL2.out).mono ?_); rintro e w1 ⟨v2, c2, rfl, hf, hn, ho⟩; obtain ⟨A3, cp3, hv2⟩ := Kd.N_slice hn; subst hv2; have HNW_ := Aside0.mk hn; have G_n := Aside0.mk (G.out.step hf (by decide)); have HD_n := Aside0.mk (dk_keep HD.out hf (by decide)); have HL_n := Aside0.mk (HL.out.keep hf (by decide)); have HT_n := Aside0.mk (TP.keep HT.out G.out hf (by decide) (by decide) (by decide)); have HWAS_n := Aside0.mk (NL.keep HWAS.out G.out hf (by decide) (by decide)); clear G HD HL HT HWAS; have G := G_n; have HD := HD_n; have HL := HL_n; have HT := HT_n; have HWAS := HWAS_n; clear G_n HD_n HL_n HT_n HWAS_n; have HNW := HNW_; clear HNW_ hn hf ho)
          have HNOW := Aside0.mk (nl_of HNW.out); clear HNW
          have HCP := Aside0.mk HNOW.out.reads.2.1
          have hta := Kd.N_take (m := xs.length) HNOW.out HZX.out.1
          rw [HZX.out.2] at hta
          have HTA := Aside0.mk (show NL X4.k44 44 w.heap.size _ _ 5 (.slice A3 xs.length cp3) xs from hta)
          clear hta
          have HOKX := Aside0.mk (show ∀ x ∈ xs, okE x from fun x hx => (HON.out x hx).2.2)
          have t1 : decide (E < E) = false := decide_eq_false (by have := HEE2.out; omega)
          have t2 : (E < E) = False := eq_false (by have := HEE2.out; omega)
          have t3 : decide ((xs.length : Int) < (xs.length : Int)) = false := decide_eq_false (by have := HZX.out.1; omega)
          have t4 : ((xs.length : Int) < (xs.length : Int)) = False := eq_false (by have := HZX.out.1; omega)
          have t5 : decide (W'.op < E) = false := decide_eq_false (by have := HEE2.out; have := HQ.out.ord.1.2.2.1; omega)
          have t6 : (W'.op < E) = False := eq_false (by have := HEE2.out; have := HQ.out.ord.1.2.2.1; omega)
          have t7 : (xs.length : Int) ≤ (cp3 : Int) := by have := HCP.out; have := HZX.out.1; omega
          have t8 : (0 : Int) ≤ (xs.length : Int) := by omega
          have t9 : xs.length ≤ cp3 := by omega
          go_upto_region 22 with (first | (go_at_call 37; (with_reducible refine (upto_calls HT.out).mono ?_); rintro e w1 ⟨rfl, hb1⟩; have G_n := Aside0.mk (G.out.below hb1); have HD_n := Aside0.mk (HD.out.below hb1); have HL_n := Aside0.mk (HL.out.below hb1); have HT_n := Aside0.mk (TP.below HT.out hb1); have HWAS_n := Aside0.mk (NL.below HWAS.out hb1); have HNOW_n := Aside0.mk (NL.below HNOW.out hb1); have HTA_n := Aside0.mk (NL.below HTA.out hb1); clear G HD HL HT HWAS HNOW HTA; have G := G_n; have HD := HD_n; have HL := HL_n; have HT := HT_n; have HWAS := HWAS_n; have HNOW := HNOW_n; have HTA := HTA_n; clear G_n HD_n HL_n HT_n HWAS_n HNOW_n HTA_n; clear hb1) | (go_at_call 30; (with_reducible refine (next_calls HL.out).mono ?_); rintro e w1 ⟨rfl, hb1⟩; have G_n := Aside0.mk (G.out.below hb1); have HD_n := Aside0.mk (HD.out.below hb1); have HL_n := Aside0.mk (HL.out.below hb1); have HT_n := Aside0.mk (TP.below HT.out hb1); have HWAS_n := Aside0.mk (NL.below HWAS.out hb1); have HNOW_n := Aside0.mk (NL.below HNOW.out hb1); have HTA_n := Aside0.mk (NL.below HTA.out hb1); clear G HD HL HT HWAS HNOW HTA; have G := G_n; have HD := HD_n; have HL := HL_n; have HT := HT_n; have HWAS := HWAS_n; have HNOW := HNOW_n; have HTA := HTA_n; clear G_n HD_n HL_n HT_n HWAS_n HNOW_n HTA_n; clear hb1) | (go_at_call 21; (with_reducible refine (sameall_big _ _ _ _ _ _ HTA.out.reads.2.2 HWAS.out.reads.2.2 HOKX.out HXL.out).mono ?_); rintro e w1 ⟨rfl, hb1⟩; have G_n := Aside0.mk (G.out.below hb1); have HD_n := Aside0.mk (HD.out.below hb1); have HL_n := Aside0.mk (HL.out.below hb1); have HT_n := Aside0.mk (TP.below HT.out hb1); have HWAS_n := Aside0.mk (NL.below HWAS.out hb1); have HNOW_n := Aside0.mk (NL.below HNOW.out hb1); have HTA_n := Aside0.mk (NL.below HTA.out hb1); clear G HD HL HT HWAS HNOW HTA; have G := G_n; have HD := HD_n; have HL := HL_n; have HT := HT_n; have HWAS := HWAS_n; have HNOW := HNOW_n; have HTA := HTA_n; clear G_n HD_n HL_n HT_n HWAS_n HNOW_n HTA_n; clear hb1))
          clear t1 t2 t3 t4 t5 t6 t7 t8 t9 HTA HWAS
          go_upto_region 23 with (fail)
          go_loopw [122] (fun v wq => ∃ (j : Nat) (c' : Nat → Nat), v = .int .i64 j ∧ Aside0 (j ≤ xs.length) ∧ Aside0 (Gr w wq c') ∧ Aside0 (LO wq c' gl m g W') ∧ Aside0 (∃ d' R' e', DK wq (Col c' 1) g d' ∧ Qs (N : Int) 1 W' R' d' e') ∧ Aside0 (∃ tv', TP w wq c' gt E tv' xs) ∧ Aside0 (NL X4.k44 44 w.heap.size wq c' 5 (.slice A3 xs.length cp3) xs)) (fun v _ => xs.length - (intOf v).toNat)
          case atStart => exact ⟨0, _, rfl, ⟨Nat.zero_le _⟩, G, HL, ⟨⟨_, _, _, HD.out, HQ.out⟩⟩, ⟨⟨_, HT.out⟩⟩, HNOW⟩
          case round =>
            clear G HL HD HQ HT HNOW
            obtain ⟨j, c', rfl, HJ, G, HL, HDQ, HTT, HNOW⟩ := hrel
            obtain ⟨d', R', e', hd, hq⟩ := HDQ.out
            obtain ⟨tv', ht⟩ := HTT.out
            have HD := Aside0.mk hd; have HQ := Aside0.mk hq; have HT := Aside0.mk ht
            clear hd hq ht HDQ HTT
            by_cases hj : j < xs.length
            · have hj1 : (j : Int) < (xs.length : Int) := by omega
              have hj0 : (0 : Int) ≤ (j : Int) := by omega
              have hwj : wrap64 ((j : Int) + 1) = ((j + 1 : Nat) : Int) := by have := HXL2.out; unfold wrap64; omega
              have HJT := Aside0.mk hj
              obtain ⟨aj, B9, d9, B10, d10, hAj, y0, y1, y2, y3, y4, y5, y6, y7, y8, y9, y10, y11, _, _, _, _⟩ := at_T44 HNOW.out.reads.2.2 (j : Int) (by omega) hj1
              subst hAj
              rw [Int.toNat_natCast] at y0 y1 y2 y3 y4 y5 y6 y7 y8 y9 y10 y11
              have HXO := Aside0.mk (HON2.out _ (rde_mem hj))
              generalize rd_T44 xs (j : Nat) = x at *
              clear hj
              go_upto_region 25 with (fail)
              have hf := fr_alloc [] wr c' 4 (.cells #[.int .i64 x.f0, .int .i64 x.f1.f0, .int .i64 x.f1.f1, .int .i64 x.f1.f2, .int .i64 x.f1.f3, .int .i64 x.f1.f4, .int .i64 x.f1.f5, .int .i64 x.f1.f6, .string x.f1.f7, .string x.f1.f8, .slice B9 x.f1.f9.length d9, .slice B10 x.f1.f10.length d10] 44)
              have G_n := Aside0.mk (G.out.step hf (by decide)); have HD_n := Aside0.mk (dk_keep HD.out hf (by decide)); have HL_n := Aside0.mk (HL.out.keep hf (by decide)); have HT_n := Aside0.mk (TP.keep HT.out G.out hf (by decide) (by decide) (by decide)); have HNOW_n := Aside0.mk (NL.keep HNOW.out G.out hf (by decide) (by decide)); clear G HD HL HT HNOW; have G := G_n; have HD := HD_n; have HL := HL_n; have HT := HT_n; have HNOW := HNOW_n; clear G_n HD_n HL_n HT_n HNOW_n
              have LX := Aside0.mk (loc_alloc wr c' 4 #[.int .i64 x.f0, .int .i64 x.f1.f0, .int .i64 x.f1.f1, .int .i64 x.f1.f2, .int .i64 x.f1.f3, .int .i64 x.f1.f4, .int .i64 x.f1.f5, .int .i64 x.f1.f6, .string x.f1.f7, .string x.f1.f8, .slice B9 x.f1.f9.length d9, .slice B10 x.f1.f10.length d10] 44)
              clear hf
              generalize Dk.paint c' wr.heap.size 4 = cLX at *
              generalize wr.alloc (.cells #[.int .i64 x.f0, .int .i64 x.f1.f0, .int .i64 x.f1.f1, .int .i64 x.f1.f2, .int .i64 x.f1.f3, .int .i64 x.f1.f4, .int .i64 x.f1.f5, .int .i64 x.f1.f6, .string x.f1.f7, .string x.f1.f8, .slice B9 x.f1.f9.length d9, .slice B10 x.f1.f10.length d10] 44) = W5 at *
              generalize wr.heap.size = bx at *
              clear y0 y1 y2 y3 y4 y5 y6 y7 y8 y9 y10 y11
              have hcs := LX.out.blk
              obtain ⟨x0, x1, x2, x3, x4, x5, x6, x7, x8, x9, x10, x11⟩ := cells12 W5 bx hcs
              clear hcs
              have HSV := Aside0.mk HXO.out.1
              go_wp2_with (go_at_call 24; (with_reducible refine (safe_calls HL.out x.f0 (by have := HXO.out.2.1; omega)).mono ?_); rintro e w1 ⟨rfl, hb1⟩; rw [HSV.out]; have G_n := Aside0.mk (G.out.below hb1); have HD_n := Aside0.mk (HD.out.below hb1); have HL_n := Aside0.mk (HL.out.below hb1); have HT_n := Aside0.mk (TP.below HT.out hb1); have HNOW_n := Aside0.mk (NL.below HNOW.out hb1); clear G HD HL HT HNOW; have G := G_n; have HD := HD_n; have HL := HL_n; have HT := HT_n; have HNOW := HNOW_n; clear G_n HD_n HL_n HT_n HNOW_n; clear hb1)
              go_roundw
              case rel => exact ⟨j + 1, _, by first | rfl | (rw [hwj]) | go_num, ⟨by have := HJT.out; omega⟩, G, HL, ⟨⟨_, _, _, HD.out, HQ.out⟩⟩, ⟨⟨_, HT.out⟩⟩, HNOW⟩
              case measure =>
                have := HJT.out
                (try rw [hwj])
                show xs.length - (intOf (.int .i64 ((j + 1 : Nat) : Int))).toNat < xs.length - (intOf (.int .i64 (j : Int))).toNat
                simp only [intOf]; omega
            · obtain rfl : j = xs.length := by have := HJ.out; omega
              clear hj HJ
              go_wp2
              go_roundw
              case rel => exact ⟨r + 1, _, _, _, _, _, _, _, _, by first | rfl | (rw [hwk]) | go_num, ⟨by have := HLT.out; omega⟩, G, HL, HD, HQ, HT, ⟨by have := HEE2.out; omega⟩, HON2, HLN2⟩
              case measure =>
                have := HLT.out
                (try rw [hwk])
                show l.length - (intOf (.int .i64 ((r + 1 : Nat) : Int))).toNat < l.length - (intOf (.int .i64 (r : Int))).toNat
                simp only [intOf]; omega
        have hk1 : (o_.f0 == (1 : Int)) = false := beq_eq_false_iff_ne.2 hk
        by_cases hkb : o_.f0 = 2
        · have hk2 : (o_.f0 == (2 : Int)) = true := beq_iff_eq.2 hkb
          have HWAS := Aside0.mk (nl_of HWN.out); clear HWN
          have HDF := Aside0.mk HQ.out.done.2.2.2.2
          go_upto_region 19 with (go_at_call 16; (with_reducible refine (flush_calls HL.out HD.out HQ.out.ok (by decide) (HQ.out.fit HE.out) HQ.out.bd HQ.out.gap.1 HQ.out.gap.2).mono ?_); rintro e w1 ⟨rfl, c1, hf, hl, hd, ho⟩; obtain ⟨f1, f2, f3, f4⟩ := HQ.out.flush HE.out; rw [f1]; rw [f2] at hl; have G_n := Aside0.mk (G.out.step hf (by decide)); have HT_n := Aside0.mk (TP.keep HT.out G.out hf (by decide) (by decide) (by decide)); have HWAS_n := Aside0.mk (NL.keep HWAS.out G.out hf (by decide) (by decide)); clear G HT HWAS; have G := G_n; have HT := HT_n; have HWAS := HWAS_n; clear G_n HT_n HWAS_n; clear HD HL HQ; have HD := Aside0.mk hd; have HL := Aside0.mk hl; have HQ := Aside0.mk f3; clear hl hd hf ho f1 f2 f3 f4)
          (try clear q0 q1 q2 q3 q4 q5 q6 q7 q8 q9 q10 q11 q12 q13)
          clear hk hk1 hkb hk2 LB
          have HON2 := Aside0.mk (HON.out.more (W' := doneW W) HDF.out); have HEE2 := Aside0.mk (show E ≤ E ∧ 1 ≤ E ∧ E ≤ (doneW W).first by have h1 : (doneW W).first = nxW W := rfl; rw [h1]; have := HEE.out; have := HDF.out; omega)
          have HZX := Aside0.mk (show xs.length ≤ xs.length ∧ xs.take xs.length = xs from ⟨Nat.le_refl _, List.take_length⟩)
          have HLN2 := Aside0.mk (show xs.length ≤ (r + 1) * 1000000 from Nat.le_trans HLN.out (Nat.mul_le_mul_right _ (Nat.le_succ r)))
          have HXL2 := Aside0.mk (show xs.length ≤ 1000000000 from Nat.le_trans HLN2.out (Nat.le_trans (Nat.mul_le_mul_right _ (show r + 1 ≤ 200 by have := HLG.out.1; have := HLT.out; omega)) (by decide)))
          go_upto_region 20 with (go_at_call 36; (with_reducible refine (tlist_calls HT.out G.out HXL2.out).mono ?_); rintro e w1 ⟨v2, c2, rfl, hf, hn, ho⟩; obtain ⟨A3, cp3, hv2⟩ := Kd.N_slice hn; subst hv2; have HNW_ := Aside0.mk hn; have G_n := Aside0.mk (G.out.step hf (by decide)); have HD_n := Aside0.mk (dk_keep HD.out hf (by decide)); have HL_n := Aside0.mk (HL.out.keep hf (by decide)); have HT_n := Aside0.mk (TP.keep HT.out G.out hf (by decide) (by decide) (by decide)); have HWAS_n := Aside0.mk (NL.keep HWAS.out G.out hf (by decide) (by decide)); clear G HD HL HT HWAS; have G := G_n; have HD := HD_n; have HL := HL_n; have HT := HT_n; have HWAS := HWAS_n; clear G_n HD_n HL_n HT_n HWAS_n; have HNW := HNW_; clear HNW_ hn hf ho)
          have HNOW := Aside0.mk (nl_of HNW.out); clear HNW
          have HCP := Aside0.mk HNOW.out.reads.2.1
          have hta := Kd.N_take (m := xs.length) HNOW.out HZX.out.1
          rw [HZX.out.2] at hta
          have HTA := Aside0.mk (show NL X4.k44 44 w.heap.size _ _ 5 (.slice A3 xs.length cp3) xs from hta)
          clear hta
          have HOKX := Aside0.mk (show ∀ x ∈ xs, okE x from fun x hx => (HON.out x hx).2.2)
          have t1 : decide (E < E) = false := decide_eq_false (by have := HEE2.out; omega)
          have t2 : (E < E) = False := eq_false (by have := HEE2.out; omega)
          have t3 : decide ((xs.length : Int) < (xs.length : Int)) = false := decide_eq_false (by have := HZX.out.1; omega)
          have t4 : ((xs.length : Int) < (xs.length : Int)) = False := eq_false (by have := HZX.out.1; omega)
          have t5 : decide ((doneW W).op < E) = false := decide_eq_false (by have := HEE2.out; have := HQ.out.ord.1.2.2.1; omega)
          have t6 : ((doneW W).op < E) = False := eq_false (by have := HEE2.out; have := HQ.out.ord.1.2.2.1; omega)
          have t7 : (xs.length : Int) ≤ (cp3 : Int) := by have := HCP.out; have := HZX.out.1; omega
          have t8 : (0 : Int) ≤ (xs.length : Int) := by omega
          have t9 : xs.length ≤ cp3 := by omega
          go_upto_region 22 with (first | (go_at_call 37; (with_reducible refine (upto_calls HT.out).mono ?_); rintro e w1 ⟨rfl, hb1⟩; have G_n := Aside0.mk (G.out.below hb1); have HD_n := Aside0.mk (HD.out.below hb1); have HL_n := Aside0.mk (HL.out.below hb1); have HT_n := Aside0.mk (TP.below HT.out hb1); have HWAS_n := Aside0.mk (NL.below HWAS.out hb1); have HNOW_n := Aside0.mk (NL.below HNOW.out hb1); have HTA_n := Aside0.mk (NL.below HTA.out hb1); clear G HD HL HT HWAS HNOW HTA; have G := G_n; have HD := HD_n; have HL := HL_n; have HT := HT_n; have HWAS := HWAS_n; have HNOW := HNOW_n; have HTA := HTA_n; clear G_n HD_n HL_n HT_n HWAS_n HNOW_n HTA_n; clear hb1) | (go_at_call 30; (with_reducible refine (next_calls HL.out).mono ?_); rintro e w1 ⟨rfl, hb1⟩; have G_n := Aside0.mk (G.out.below hb1); have HD_n := Aside0.mk (HD.out.below hb1); have HL_n := Aside0.mk (HL.out.below hb1); have HT_n := Aside0.mk (TP.below HT.out hb1); have HWAS_n := Aside0.mk (NL.below HWAS.out hb1); have HNOW_n := Aside0.mk (NL.below HNOW.out hb1); have HTA_n := Aside0.mk (NL.below HTA.out hb1); clear G HD HL HT HWAS HNOW HTA; have G := G_n; have HD := HD_n; have HL := HL_n; have HT := HT_n; have HWAS := HWAS_n; have HNOW := HNOW_n; have HTA := HTA_n; clear G_n HD_n HL_n HT_n HWAS_n HNOW_n HTA_n; clear hb1) | (go_at_call 21; (with_reducible refine (sameall_big _ _ _ _ _ _ HTA.out.reads.2.2 HWAS.out.reads.2.2 HOKX.out HXL.out).mono ?_); rintro e w1 ⟨rfl, hb1⟩; have G_n := Aside0.mk (G.out.below hb1); have HD_n := Aside0.mk (HD.out.below hb1); have HL_n := Aside0.mk (HL.out.below hb1); have HT_n := Aside0.mk (TP.below HT.out hb1); have HWAS_n := Aside0.mk (NL.below HWAS.out hb1); have HNOW_n := Aside0.mk (NL.below HNOW.out hb1); have HTA_n := Aside0.mk (NL.below HTA.out hb1); clear G HD HL HT HWAS HNOW HTA; have G := G_n; have HD := HD_n; have HL := HL_n; have HT := HT_n; have HWAS := HWAS_n; have HNOW := HNOW_n; have HTA := HTA_n; clear G_n HD_n HL_n HT_n HWAS_n HNOW_n HTA_n; clear hb1))
          clear t1 t2 t3 t4 t5 t6 t7 t8 t9 HTA HWAS
          go_upto_region 23 with (fail)
          go_loopw [122] (fun v wq => ∃ (j : Nat) (c' : Nat → Nat), v = .int .i64 j ∧ Aside0 (j ≤ xs.length) ∧ Aside0 (Gr w wq c') ∧ Aside0 (LO wq c' gl m g (doneW W)) ∧ Aside0 (∃ d' R' e', DK wq (Col c' 1) g d' ∧ Qs (N : Int) 1 (doneW W) R' d' e') ∧ Aside0 (∃ tv', TP w wq c' gt E tv' xs) ∧ Aside0 (NL X4.k44 44 w.heap.size wq c' 5 (.slice A3 xs.length cp3) xs)) (fun v _ => xs.length - (intOf v).toNat)
          case atStart => exact ⟨0, _, rfl, ⟨Nat.zero_le _⟩, G, HL, ⟨⟨_, _, _, HD.out, HQ.out⟩⟩, ⟨⟨_, HT.out⟩⟩, HNOW⟩
          case round =>
            clear G HL HD HQ HT HNOW
            obtain ⟨j, c', rfl, HJ, G, HL, HDQ, HTT, HNOW⟩ := hrel
            obtain ⟨d', R', e', hd, hq⟩ := HDQ.out
            obtain ⟨tv', ht⟩ := HTT.out
            have HD := Aside0.mk hd; have HQ := Aside0.mk hq; have HT := Aside0.mk ht
            clear hd hq ht HDQ HTT
            by_cases hj : j < xs.length
            · have hj1 : (j : Int) < (xs.length : Int) := by omega
              have hj0 : (0 : Int) ≤ (j : Int) := by omega
              have hwj : wrap64 ((j : Int) + 1) = ((j + 1 : Nat) : Int) := by have := HXL2.out; unfold wrap64; omega
              have HJT := Aside0.mk hj
              obtain ⟨aj, B9, d9, B10, d10, hAj, y0, y1, y2, y3, y4, y5, y6, y7, y8, y9, y10, y11, _, _, _, _⟩ := at_T44 HNOW.out.reads.2.2 (j : Int) (by omega) hj1
              subst hAj
              rw [Int.toNat_natCast] at y0 y1 y2 y3 y4 y5 y6 y7 y8 y9 y10 y11
              have HXO := Aside0.mk (HON2.out _ (rde_mem hj))
              generalize rd_T44 xs (j : Nat) = x at *
              clear hj
              go_upto_region 25 with (fail)
              have hf := fr_alloc [] wr c' 4 (.cells #[.int .i64 x.f0, .int .i64 x.f1.f0, .int .i64 x.f1.f1, .int .i64 x.f1.f2, .int .i64 x.f1.f3, .int .i64 x.f1.f4, .int .i64 x.f1.f5, .int .i64 x.f1.f6, .string x.f1.f7, .string x.f1.f8, .slice B9 x.f1.f9.length d9, .slice B10 x.f1.f10.length d10] 44)
              have G_n := Aside0.mk (G.out.step hf (by decide)); have HD_n := Aside0.mk (dk_keep HD.out hf (by decide)); have HL_n := Aside0.mk (HL.out.keep hf (by decide)); have HT_n := Aside0.mk (TP.keep HT.out G.out hf (by decide) (by decide) (by decide)); have HNOW_n := Aside0.mk (NL.keep HNOW.out G.out hf (by decide) (by decide)); clear G HD HL HT HNOW; have G := G_n; have HD := HD_n; have HL := HL_n; have HT := HT_n; have HNOW := HNOW_n; clear G_n HD_n HL_n HT_n HNOW_n
              have LX := Aside0.mk (loc_alloc wr c' 4 #[.int .i64 x.f0, .int .i64 x.f1.f0, .int .i64 x.f1.f1, .int .i64 x.f1.f2, .int .i64 x.f1.f3, .int .i64 x.f1.f4, .int .i64 x.f1.f5, .int .i64 x.f1.f6, .string x.f1.f7, .string x.f1.f8, .slice B9 x.f1.f9.length d9, .slice B10 x.f1.f10.length d10] 44)
              clear hf
              generalize Dk.paint c' wr.heap.size 4 = cLX at *
              generalize wr.alloc (.cells #[.int .i64 x.f0, .int .i64 x.f1.f0, .int .i64 x.f1.f1, .int .i64 x.f1.f2, .int .i64 x.f1.f3, .int .i64 x.f1.f4, .int .i64 x.f1.f5, .int .i64 x.f1.f6, .string x.f1.f7, .string x.f1.f8, .slice B9 x.f1.f9.length d9, .slice B10 x.f1.f10.length d10] 44) = W5 at *
              generalize wr.heap.size = bx at *
              clear y0 y1 y2 y3 y4 y5 y6 y7 y8 y9 y10 y11
              have hcs := LX.out.blk
              obtain ⟨x0, x1, x2, x3, x4, x5, x6, x7, x8, x9, x10, x11⟩ := cells12 W5 bx hcs
              clear hcs
              have HSV := Aside0.mk HXO.out.1
              go_wp2_with (go_at_call 24; (with_reducible refine (safe_calls HL.out x.f0 (by have := HXO.out.2.1; omega)).mono ?_); rintro e w1 ⟨rfl, hb1⟩; rw [HSV.out]; have G_n := Aside0.mk (G.out.below hb1); have HD_n := Aside0.mk (HD.out.below hb1); have HL_n := Aside0.mk (HL.out.below hb1); have HT_n := Aside0.mk (TP.below HT.out hb1); have HNOW_n := Aside0.mk (NL.below HNOW.out hb1); clear G HD HL HT HNOW; have G := G_n; have HD := HD_n; have HL := HL_n; have HT := HT_n; have HNOW := HNOW_n; clear G_n HD_n HL_n HT_n HNOW_n; clear hb1)
              go_roundw
              case rel => exact ⟨j + 1, _, by first | rfl | (rw [hwj]) | go_num, ⟨by have := HJT.out; omega⟩, G, HL, ⟨⟨_, _, _, HD.out, HQ.out⟩⟩, ⟨⟨_, HT.out⟩⟩, HNOW⟩
              case measure =>
                have := HJT.out
                (try rw [hwj])
                show xs.length - (intOf (.int .i64 ((j + 1 : Nat) : Int))).toNat < xs.length - (intOf (.int .i64 (j : Int))).toNat
                simp only [intOf]; omega
            · obtain rfl : j = xs.length := by have := HJ.out; omega
              clear hj HJ
              go_wp2
              go_roundw
              case rel => exact ⟨r + 1, _, _, _, _, _, _, _, _, by first | rfl | (rw [hwk]) | go_num, ⟨by have := HLT.out; omega⟩, G, HL, HD, HQ, HT, ⟨by have := HEE2.out; omega⟩, HON2, HLN2⟩
              case measure =>
                have := HLT.out
                (try rw [hwk])
                show l.length - (intOf (.int .i64 ((r + 1 : Nat) : Int))).toNat < l.length - (intOf (.int .i64 (r : Int))).toNat
                simp only [intOf]; omega
        have hk2 : (o_.f0 == (2 : Int)) = false := beq_eq_false_iff_ne.2 hkb
        have HEB := Aside0.mk (show 0 ≤ E ∧ E ≤ 1000000000 by have := HEE.out; have := HQ.out.ord; omega); have HEL := Aside0.mk (show W.low ≤ E by have := HEE.out; have := HQ.out.ord; omega); have HEM := Aside0.mk (show max E W.first = W.first by have := HEE.out; omega)
        have HTL := Aside0.mk (tk_len HQ.out.bd HQ.out.sgap.2 E)
        have HON2 := Aside0.mk (HON.out.add (HQ.out.fit HE.out) HQ.out.bd HQ.out.sgap.2 E)
        have HZL := Aside0.mk (show (xs ++ tk W E).length = xs.length + (tk W E).length from List.length_append)
        have HTX := Aside0.mk (show (xs ++ tk W E).take xs.length = xs from List.take_left' rfl)
        go_upto_region 13 with (go_at_call 38; (with_reducible refine (tadd_calls HT.out G.out HL.out (HQ.out.fit HE.out) HQ.out.bd HQ.out.sgap HEB.out HEL.out HXL.out).mono ?_); rintro e w1 ⟨v1, c1, rfl, hf, ht, hzs⟩; have HWAS := Aside0.mk (was_keep HWN.out G.out HT.out hf hzs); clear HWN; rw [HEM.out] at ht; have G_n := Aside0.mk (G.out.step hf (by decide)); have HL_n := Aside0.mk (HL.out.keep hf (by decide)); have HD_n := Aside0.mk (dk_keep HD.out hf (by decide)); clear G HL HD; have G := G_n; have HL := HL_n; have HD := HD_n; clear G_n HL_n HD_n; clear HT; have HT := Aside0.mk ht; clear ht hf hzs)
        (try clear q0 q1 q2 q3 q4 q5 q6 q7 q8 q9 q10 q11 q12 q13)
        clear hk hk1 hkb hk2 LB
        generalize xs ++ tk W E = zs at *
        generalize (tk W E).length = kk at *
        have HXZ := Aside0.mk (show zs.length ≤ 1000000000 by have := HZL.out; have := HTL.out; have := HLN.out; have := HLG.out.1; have := HLT.out; omega)
        have s1 : wrap64 ((zs.length : Int) - (xs.length : Int)) = (kk : Int) := by have := HZL.out; have := HXZ.out; unfold wrap64; omega
        have s2 : ((kk : Int) != (kk : Int)) = false := by simp
        go_upto_region 19 with (go_at_call 36; (with_reducible refine (tlist_calls HT.out G.out HXZ.out).mono ?_); rintro e w1 ⟨v2, c2, rfl, hf, hn, ho⟩; obtain ⟨A5, cp5, hv2⟩ := Kd.N_slice hn; subst hv2; have G_n := Aside0.mk (G.out.step hf (by decide)); have HD_n := Aside0.mk (dk_keep HD.out hf (by decide)); have HL_n := Aside0.mk (HL.out.keep hf (by decide)); have HT_n := Aside0.mk (TP.keep HT.out G.out hf (by decide) (by decide) (by decide)); have HWAS_n := Aside0.mk (NL.keep HWAS.out G.out hf (by decide) (by decide)); clear G HD HL HT HWAS; have G := G_n; have HD := HD_n; have HL := HL_n; have HT := HT_n; have HWAS := HWAS_n; clear G_n HD_n HL_n HT_n HWAS_n; clear hn hf ho)
        clear s1 s2
        have HEE2 := Aside0.mk (show E ≤ W.first ∧ 1 ≤ W.first ∧ W.first ≤ W.first by have := HEE.out; omega)
        have HZX := Aside0.mk (show xs.length ≤ zs.length ∧ zs.take xs.length = xs from ⟨by have := HZL.out; omega, HTX.out⟩)
        have HLN2 := Aside0.mk (show zs.length ≤ (r + 1) * 1000000 from Nat.le_trans (Nat.le_of_eq HZL.out) (Nat.le_trans (Nat.add_le_add HLN.out HTL.out) (Nat.le_of_eq (Nat.succ_mul r 1000000).symm)))
        have HXL2 := Aside0.mk (show zs.length ≤ 1000000000 from Nat.le_trans HLN2.out (Nat.le_trans (Nat.mul_le_mul_right _ (show r + 1 ≤ 200 by have := HLG.out.1; have := HLT.out; omega)) (by decide)))
        go_upto_region 20 with (go_at_call 36; (with_reducible refine (tlist_calls HT.out G.out HXL2.out).mono ?_); rintro e w1 ⟨v2, c2, rfl, hf, hn, ho⟩; obtain ⟨A3, cp3, hv2⟩ := Kd.N_slice hn; subst hv2; have HNW_ := Aside0.mk hn; have G_n := Aside0.mk (G.out.step hf (by decide)); have HD_n := Aside0.mk (dk_keep HD.out hf (by decide)); have HL_n := Aside0.mk (HL.out.keep hf (by decide)); have HT_n := Aside0.mk (TP.keep HT.out G.out hf (by decide) (by decide) (by decide)); have HWAS_n := Aside0.mk (NL.keep HWAS.out G.out hf (by decide) (by decide)); clear G HD HL HT HWAS; have G := G_n; have HD := HD_n; have HL := HL_n; have HT := HT_n; have HWAS := HWAS_n; clear G_n HD_n HL_n HT_n HWAS_n; have HNW := HNW_; clear HNW_ hn hf ho)
        have HNOW := Aside0.mk (nl_of HNW.out); clear HNW
        have HCP := Aside0.mk HNOW.out.reads.2.1
        have hta := Kd.N_take (m := xs.length) HNOW.out HZX.out.1
        rw [HZX.out.2] at hta
        have HTA := Aside0.mk (show NL X4.k44 44 w.heap.size _ _ 5 (.slice A3 xs.length cp3) xs from hta)
        clear hta
        have HOKX := Aside0.mk (show ∀ x ∈ xs, okE x from fun x hx => (HON.out x hx).2.2)
        have t1 : decide (W.first < E) = false := decide_eq_false (by have := HEE2.out; omega)
        have t2 : (W.first < E) = False := eq_false (by have := HEE2.out; omega)
        have t3 : decide ((zs.length : Int) < (xs.length : Int)) = false := decide_eq_false (by have := HZX.out.1; omega)
        have t4 : ((zs.length : Int) < (xs.length : Int)) = False := eq_false (by have := HZX.out.1; omega)
        have t5 : decide (W.op < W.first) = false := decide_eq_false (by have := HEE2.out; have := HQ.out.ord.1.2.2.1; omega)
        have t6 : (W.op < W.first) = False := eq_false (by have := HEE2.out; have := HQ.out.ord.1.2.2.1; omega)
        have t7 : (xs.length : Int) ≤ (cp3 : Int) := by have := HCP.out; have := HZX.out.1; omega
        have t8 : (0 : Int) ≤ (xs.length : Int) := by omega
        have t9 : xs.length ≤ cp3 := by omega
        go_upto_region 22 with (first | (go_at_call 37; (with_reducible refine (upto_calls HT.out).mono ?_); rintro e w1 ⟨rfl, hb1⟩; have G_n := Aside0.mk (G.out.below hb1); have HD_n := Aside0.mk (HD.out.below hb1); have HL_n := Aside0.mk (HL.out.below hb1); have HT_n := Aside0.mk (TP.below HT.out hb1); have HWAS_n := Aside0.mk (NL.below HWAS.out hb1); have HNOW_n := Aside0.mk (NL.below HNOW.out hb1); have HTA_n := Aside0.mk (NL.below HTA.out hb1); clear G HD HL HT HWAS HNOW HTA; have G := G_n; have HD := HD_n; have HL := HL_n; have HT := HT_n; have HWAS := HWAS_n; have HNOW := HNOW_n; have HTA := HTA_n; clear G_n HD_n HL_n HT_n HWAS_n HNOW_n HTA_n; clear hb1) | (go_at_call 30; (with_reducible refine (next_calls HL.out).mono ?_); rintro e w1 ⟨rfl, hb1⟩; have G_n := Aside0.mk (G.out.below hb1); have HD_n := Aside0.mk (HD.out.below hb1); have HL_n := Aside0.mk (HL.out.below hb1); have HT_n := Aside0.mk (TP.below HT.out hb1); have HWAS_n := Aside0.mk (NL.below HWAS.out hb1); have HNOW_n := Aside0.mk (NL.below HNOW.out hb1); have HTA_n := Aside0.mk (NL.below HTA.out hb1); clear G HD HL HT HWAS HNOW HTA; have G := G_n; have HD := HD_n; have HL := HL_n; have HT := HT_n; have HWAS := HWAS_n; have HNOW := HNOW_n; have HTA := HTA_n; clear G_n HD_n HL_n HT_n HWAS_n HNOW_n HTA_n; clear hb1) | (go_at_call 21; (with_reducible refine (sameall_big _ _ _ _ _ _ HTA.out.reads.2.2 HWAS.out.reads.2.2 HOKX.out HXL.out).mono ?_); rintro e w1 ⟨rfl, hb1⟩; have G_n := Aside0.mk (G.out.below hb1); have HD_n := Aside0.mk (HD.out.below hb1); have HL_n := Aside0.mk (HL.out.below hb1); have HT_n := Aside0.mk (TP.below HT.out hb1); have HWAS_n := Aside0.mk (NL.below HWAS.out hb1); have HNOW_n := Aside0.mk (NL.below HNOW.out hb1); have HTA_n := Aside0.mk (NL.below HTA.out hb1); clear G HD HL HT HWAS HNOW HTA; have G := G_n; have HD := HD_n; have HL := HL_n; have HT := HT_n; have HWAS := HWAS_n; have HNOW := HNOW_n; have HTA := HTA_n; clear G_n HD_n HL_n HT_n HWAS_n HNOW_n HTA_n; clear hb1))
        clear t1 t2 t3 t4 t5 t6 t7 t8 t9 HTA HWAS
        go_upto_region 23 with (fail)
        go_loopw [122] (fun v wq => ∃ (j : Nat) (c' : Nat → Nat), v = .int .i64 j ∧ Aside0 (j ≤ zs.length) ∧ Aside0 (Gr w wq c') ∧ Aside0 (LO wq c' gl m g W) ∧ Aside0 (∃ d' R' e', DK wq (Col c' 1) g d' ∧ Qs (N : Int) 1 W R' d' e') ∧ Aside0 (∃ tv', TP w wq c' gt W.first tv' zs) ∧ Aside0 (NL X4.k44 44 w.heap.size wq c' 5 (.slice A3 zs.length cp3) zs)) (fun v _ => zs.length - (intOf v).toNat)
        case atStart => exact ⟨0, _, rfl, ⟨Nat.zero_le _⟩, G, HL, ⟨⟨_, _, _, HD.out, HQ.out⟩⟩, ⟨⟨_, HT.out⟩⟩, HNOW⟩
        case round =>
          clear G HL HD HQ HT HNOW
          obtain ⟨j, c', rfl, HJ, G, HL, HDQ, HTT, HNOW⟩ := hrel
          obtain ⟨d', R', e', hd, hq⟩ := HDQ.out
          obtain ⟨tv', ht⟩ := HTT.out
          have HD := Aside0.mk hd; have HQ := Aside0.mk hq; have HT := Aside0.mk ht
          clear hd hq ht HDQ HTT
          by_cases hj : j < zs.length
          · have hj1 : (j : Int) < (zs.length : Int) := by omega
            have hj0 : (0 : Int) ≤ (j : Int) := by omega
            have hwj : wrap64 ((j : Int) + 1) = ((j + 1 : Nat) : Int) := by have := HXL2.out; unfold wrap64; omega
            have HJT := Aside0.mk hj
            obtain ⟨aj, B9, d9, B10, d10, hAj, y0, y1, y2, y3, y4, y5, y6, y7, y8, y9, y10, y11, _, _, _, _⟩ := at_T44 HNOW.out.reads.2.2 (j : Int) (by omega) hj1
            subst hAj
            rw [Int.toNat_natCast] at y0 y1 y2 y3 y4 y5 y6 y7 y8 y9 y10 y11
            have HXO := Aside0.mk (HON2.out _ (rde_mem hj))
            generalize rd_T44 zs (j : Nat) = x at *
            clear hj
            go_upto_region 25 with (fail)
            have hf := fr_alloc [] wr c' 4 (.cells #[.int .i64 x.f0, .int .i64 x.f1.f0, .int .i64 x.f1.f1, .int .i64 x.f1.f2, .int .i64 x.f1.f3, .int .i64 x.f1.f4, .int .i64 x.f1.f5, .int .i64 x.f1.f6, .string x.f1.f7, .string x.f1.f8, .slice B9 x.f1.f9.length d9, .slice B10 x.f1.f10.length d10] 44)
            have G_n := Aside0.mk (G.out.step hf (by decide)); have HD_n := Aside0.mk (dk_keep HD.out hf (by decide)); have HL_n := Aside0.mk (HL.out.keep hf (by decide)); have HT_n := Aside0.mk (TP.keep HT.out G.out hf (by decide) (by decide) (by decide)); have HNOW_n := Aside0.mk (NL.keep HNOW.out G.out hf (by decide) (by decide)); clear G HD HL HT HNOW; have G := G_n; have HD := HD_n; have HL := HL_n; have HT := HT_n; have HNOW := HNOW_n; clear G_n HD_n HL_n HT_n HNOW_n
            have LX := Aside0.mk (loc_alloc wr c' 4 #[.int .i64 x.f0, .int .i64 x.f1.f0, .int .i64 x.f1.f1, .int .i64 x.f1.f2, .int .i64 x.f1.f3, .int .i64 x.f1.f4, .int .i64 x.f1.f5, .int .i64 x.f1.f6, .string x.f1.f7, .string x.f1.f8, .slice B9 x.f1.f9.length d9, .slice B10 x.f1.f10.length d10] 44)
            clear hf
            generalize Dk.paint c' wr.heap.size 4 = cLX at *
            generalize wr.alloc (.cells #[.int .i64 x.f0, .int .i64 x.f1.f0, .int .i64 x.f1.f1, .int .i64 x.f1.f2, .int .i64 x.f1.f3, .int .i64 x.f1.f4, .int .i64 x.f1.f5, .int .i64 x.f1.f6, .string x.f1.f7, .string x.f1.f8, .slice B9 x.f1.f9.length d9, .slice B10 x.f1.f10.length d10] 44) = W5 at *
            generalize wr.heap.size = bx at *
            clear y0 y1 y2 y3 y4 y5 y6 y7 y8 y9 y10 y11
            have hcs := LX.out.blk
            obtain ⟨x0, x1, x2, x3, x4, x5, x6, x7, x8, x9, x10, x11⟩ := cells12 W5 bx hcs
            clear hcs
            have HSV := Aside0.mk HXO.out.1
            go_wp2_with (go_at_call 24; (with_reducible refine (safe_calls HL.out x.f0 (by have := HXO.out.2.1; omega)).mono ?_); rintro e w1 ⟨rfl, hb1⟩; rw [HSV.out]; have G_n := Aside0.mk (G.out.below hb1); have HD_n := Aside0.mk (HD.out.below hb1); have HL_n := Aside0.mk (HL.out.below hb1); have HT_n := Aside0.mk (TP.below HT.out hb1); have HNOW_n := Aside0.mk (NL.below HNOW.out hb1); clear G HD HL HT HNOW; have G := G_n; have HD := HD_n; have HL := HL_n; have HT := HT_n; have HNOW := HNOW_n; clear G_n HD_n HL_n HT_n HNOW_n; clear hb1)
            go_roundw
            case rel => exact ⟨j + 1, _, by first | rfl | (rw [hwj]) | go_num, ⟨by have := HJT.out; omega⟩, G, HL, ⟨⟨_, _, _, HD.out, HQ.out⟩⟩, ⟨⟨_, HT.out⟩⟩, HNOW⟩
            case measure =>
              have := HJT.out
              (try rw [hwj])
              show zs.length - (intOf (.int .i64 ((j + 1 : Nat) : Int))).toNat < zs.length - (intOf (.int .i64 (j : Int))).toNat
              simp only [intOf]; omega
          · obtain rfl : j = zs.length := by have := HJ.out; omega
            clear hj HJ
            go_wp2
            go_roundw
            case rel => exact ⟨r + 1, _, _, _, _, _, _, _, _, by first | rfl | (rw [hwk]) | go_num, ⟨by have := HLT.out; omega⟩, G, HL, HD, HQ, HT, ⟨by have := HEE2.out; omega⟩, HON2, HLN2⟩
            case measure =>
              have := HLT.out
              (try rw [hwk])
              show l.length - (intOf (.int .i64 ((r + 1 : Nat) : Int))).toNat < l.length - (intOf (.int .i64 (r : Int))).toNat
              simp only [intOf]; omega
      · obtain rfl : r = l.length := by have := HRL.out; omega
        clear hlt
        go_wp2
        go_ret
        exact ⟨rfl, G.out.bel⟩
def careenlaw15_TapeGrows.f (a0 : Int) (l1 : List S71) : Option Bool := some true
theorem careenlaw15_TapeGrows.calls (a0 : Int) (A1 : Option Addr) (c1 : Nat) (l1 : List S71) (r : Bool) (w : World) (hr1 : Kd.C k71 w A1 l1.length l1) (hc1 : l1.length ≤ c1) (h : careenlaw15_TapeGrows.f a0 l1 = some r) :
    Calls Try.prog 9 #[.int .i64 a0, .slice A1 l1.length c1] w fun e w' => e = .returned (.bool r) ∧ Below w.heap.size w w' := by
  obtain rfl := Option.some.inj h
  exact grows_walk a0 A1 c1 l1 w hr1 hc1
end Go.Proofs.Ytbnglmeljbiglaa.X4
