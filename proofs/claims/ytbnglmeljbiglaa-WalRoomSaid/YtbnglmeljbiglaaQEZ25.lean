import Derived.Test.YtbnglmeljbiglaaQEZ0
import Derived.Test.YtbnglmeljbiglaaQEZ1
import Derived.Test.YtbnglmeljbiglaaQEZ2
import Derived.Test.YtbnglmeljbiglaaQEZ3
import Derived.Test.YtbnglmeljbiglaaQEZ4
import Derived.Test.YtbnglmeljbiglaaQEZ5
import Derived.Test.YtbnglmeljbiglaaQEZ6
import Derived.Test.YtbnglmeljbiglaaQEZ7
import Derived.Test.YtbnglmeljbiglaaQEZ8
import Derived.Test.YtbnglmeljbiglaaQEZ9
import Derived.Test.YtbnglmeljbiglaaQEZ10
import Derived.Test.YtbnglmeljbiglaaQEZ11
import Derived.Test.YtbnglmeljbiglaaQEZ12
import Derived.Test.YtbnglmeljbiglaaQEZ13
import Derived.Test.YtbnglmeljbiglaaQEZ14
import Derived.Test.YtbnglmeljbiglaaQEZ15
import Derived.Test.YtbnglmeljbiglaaQEZ16
import Derived.Test.YtbnglmeljbiglaaQEZ17
import Derived.Test.YtbnglmeljbiglaaQEZ18
import Derived.Test.YtbnglmeljbiglaaQEZ19
import Derived.Test.YtbnglmeljbiglaaQEZ20
import Derived.Test.YtbnglmeljbiglaaQEZ21
import Derived.Test.YtbnglmeljbiglaaQEZ22
import Derived.Test.YtbnglmeljbiglaaQEZ23
import Derived.Test.YtbnglmeljbiglaaQEZ24
set_option maxRecDepth 8192
namespace Go.Proofs.Ytbnglmeljbiglaa.X4
open Go.Proofs.Ytbnglmeljbiglaa.Rgn
open Go.Proofs.Ytbnglmeljbiglaa.Pt Go.Proofs.Ytbnglmeljbiglaa.Ptb Go.Proofs.Ytbnglmeljbiglaa.Rp Go.Proofs.Ytbnglmeljbiglaa.Wl Go Go.RowKit Go.ChangeMaps Go.Proofs.Ytbnglmeljbiglaa.Arr Go.Proofs.Ytbnglmeljbiglaa.Mp Go.Proofs.Ytbnglmeljbiglaa.Ow Go.Proofs.Ytbnglmeljbiglaa.Dk Go.Proofs.Ytbnglmeljbiglaa.Fr Go.Proofs.YtbnglmeljbiglaaW.PrintWords Go.Proofs.YtbnglmeljbiglaaW.PrintLast Go.Proofs.YtbnglmeljbiglaaW.PrintMore
set_option linter.unusedVariables false
set_option linter.unusedSimpArgs false
set_option maxHeartbeats 16000000 in
set_option maxRecDepth 20000 in
theorem room_walk (n : Int) (A1 : Option Addr) (c1 : Nat) (l : List S37) (A2 : Option Addr) (c2 : Nat) (fl : List Bool) (w : World) (hr1 : Kd.C k37 w A1 l.length l) (hc1 : l.length ≤ c1) (hr2 : Kd.C Kd.bool w A2 fl.length fl) (hc2 : fl.length ≤ c2) : Calls Try.prog 5 #[.int .i64 n, .slice A1 l.length c1, .slice A2 fl.length c2] w fun e w' => e = .returned (.bool true) ∧ Below w.heap.size w w' := by
  have HR1 := Aside0.mk hr1; have HC1 := Aside0.mk hc1; have HR2 := Aside0.mk hr2; have HC2 := Aside0.mk hc2; have HE := Aside0.mk (show (1 : Int) < 4294967290 by decide)
  clear hr1 hc1 hr2 hc2
  have G := Aside0.mk (Gr.refl w)
  go_enter Try.func5, Try.ntmps5
  have hi := Lv.mod_ok 10 n (by decide) (by decide)
  have hwn : wrap64 (8 + wrap64 ((IntKind.u64.wrap n).tmod 10)) = 8 + wrap64 ((IntKind.u64.wrap n).tmod 10) := by
    generalize wrap64 ((IntKind.u64.wrap n).tmod 10) = z at *
    unfold wrap64; omega
  go_upto_region 2 with (fail)
  (try simp only [hwn])
  clear hwn
  obtain ⟨N, hN⟩ : ∃ N : Nat, 8 + wrap64 ((IntKind.u64.wrap n).tmod 10) = (N : Int) := ⟨(8 + wrap64 ((IntKind.u64.wrap n).tmod 10)).toNat, by omega⟩
  (try rw [hN])
  have hn8 : 8 ≤ N ∧ N ≤ 27 := by omega
  clear hN hi
  have HNa := Aside0.mk (show 1 ≤ N by omega); have HNb := Aside0.mk (show N ≤ 512 by omega); have HNi := Aside0.mk (show -9223372036854775808 ≤ (N : Int) ∧ (N : Int) < 9223372036854775808 by omega)
  have HQ := Aside0.mk (qs_new (n := (N : Int)) (L := N) (by omega) (Int.le_refl _) (by omega))
  clear hn8
  go_upto_region 3 with (go_at_call 11; (with_reducible refine (newdiskG N HNa.out HNb.out G.out).mono ?_); rintro e w1 ⟨g, rfl, hk, hf⟩; have G_n := Aside0.mk (G.out.step hf (by decide)); clear G; have G := G_n; clear G_n; have HD := Aside0.mk hk; clear hk hf)
  go_upto_region 4 with (go_at_call 12; (with_reducible refine (lnew_calls HD.out HQ.out.ok 0 (N : Int) (by decide) HNi.out HQ.out.lies).mono ?_); rintro e w1 ⟨gl, m, c1, rfl, hf, hl, hd⟩; have G_n := Aside0.mk (G.out.step hf (by decide)); clear G; have G := G_n; clear G_n; clear HD; have HD := Aside0.mk hd; have HL := Aside0.mk hl; clear hl hd hf)
  generalize newD N = d0 at *
  generalize newW 0 (N : Int) = W0 at *
  generalize (fun _ => [] : Int → List Rc_) = R0 at *
  generalize (fun _ => 0 : Int → Int) = e0 at *
  by_cases ya : 100 < l.length
  · have z1 : decide ((100 : Int) < (l.length : Int)) = true := decide_eq_true (by omega)
    have z2 : ((100 : Int) < (l.length : Int)) = True := eq_true (by omega)
    go_wp2_with (go_at_call 13; (with_reducible refine (awake_calls _).mono ?_); rintro e w1 ⟨rfl, hb1⟩; have G_n := Aside0.mk (G.out.below hb1); have HD_n := Aside0.mk (HD.out.below hb1); have HL_n := Aside0.mk (HL.out.below hb1); clear G HD HL; have G := G_n; have HD := HD_n; have HL := HL_n; clear G_n HD_n HL_n; clear hb1)
    go_ret
    exact ⟨rfl, G.out.bel⟩
  have ya1 : decide ((100 : Int) < (l.length : Int)) = false := decide_eq_false (by omega)
  have ya2 : ((100 : Int) < (l.length : Int)) = False := eq_false (by omega)
  by_cases yb : 200 < fl.length
  · have z1 : decide ((200 : Int) < (fl.length : Int)) = true := decide_eq_true (by omega)
    have z2 : ((200 : Int) < (fl.length : Int)) = True := eq_true (by omega)
    go_wp2_with (go_at_call 13; (with_reducible refine (awake_calls _).mono ?_); rintro e w1 ⟨rfl, hb1⟩; have G_n := Aside0.mk (G.out.below hb1); have HD_n := Aside0.mk (HD.out.below hb1); have HL_n := Aside0.mk (HL.out.below hb1); clear G HD HL; have G := G_n; have HD := HD_n; have HL := HL_n; clear G_n HD_n HL_n; clear hb1)
    go_ret
    exact ⟨rfl, G.out.bel⟩
  have yb1 : decide ((200 : Int) < (fl.length : Int)) = false := decide_eq_false (by omega)
  have yb2 : ((200 : Int) < (fl.length : Int)) = False := eq_false (by omega)
  have HN1 := Aside0.mk (show l.length ≤ 100 by omega); have HN2 := Aside0.mk (show fl.length ≤ 200 by omega)
  go_upto_region 6 with (go_at_call 13; (with_reducible refine (awake_calls _).mono ?_); rintro e w1 ⟨rfl, hb1⟩; have G_n := Aside0.mk (G.out.below hb1); have HD_n := Aside0.mk (HD.out.below hb1); have HL_n := Aside0.mk (HL.out.below hb1); clear G HD HL; have G := G_n; have HD := HD_n; have HL := HL_n; clear G_n HD_n HL_n; clear hb1)
  clear ya ya1 ya2 yb yb1 yb2
  go_upto_region 7 with (fail)
  go_loopw [56] (fun v wr => ∃ (r : Nat) (W : WS) (R : Int → List Rc_) (d : DS) (e : Int → Int) (c : Nat → Nat), v = .int .i64 r ∧ Aside0 (r ≤ l.length) ∧ Aside0 (Gr w wr c) ∧ Aside0 (LO wr c gl m g W) ∧ Aside0 (DK wr (Col c 1) g d) ∧ Aside0 (Qs (N : Int) 1 W R d e)) (fun v _ => l.length - (intOf v).toNat)
  case atStart => exact ⟨0, _, _, _, _, _, rfl, ⟨by omega⟩, G, HL, HD, HQ⟩
  case round =>
    clear G HL HD HQ
    obtain ⟨r, W, R, d, e, c, rfl, HRL, G, HL, HD, HQ⟩ := hrel
    by_cases hlt : r < l.length
    · skip
      have h1 : (r : Int) < (l.length : Int) := by omega
      have hwk : wrap64 ((r : Int) + 1) = ((r + 1 : Nat) : Int) := by have := HN1.out; unfold wrap64; omega
      have HLT := Aside0.mk hlt
      obtain ⟨ad, A9, c9, A10, c10, hA0, q0, q1, q2, q3, q4, q5, q6, q7, q8, q9, q10, l9, g9, l10, g10⟩ := at_T37 HR1.out (r : Int) (by omega) h1
      subst hA0
      replace q0 := pw_cell_below G.out.bel q0
      replace q1 := pw_cell_below G.out.bel q1
      replace q2 := pw_cell_below G.out.bel q2
      replace q3 := pw_cell_below G.out.bel q3
      replace q4 := pw_cell_below G.out.bel q4
      replace q5 := pw_cell_below G.out.bel q5
      replace q6 := pw_cell_below G.out.bel q6
      replace q7 := pw_cell_below G.out.bel q7
      replace q8 := pw_cell_below G.out.bel q8
      replace q9 := pw_cell_below G.out.bel q9
      replace q10 := pw_cell_below G.out.bel q10
      rw [Int.toNat_natCast] at q0 q1 q2 q3 q4 q5 q6 q7 q8 q9 q10
      have H9 := Aside0.mk g9; have H10 := Aside0.mk g10; have L9 := Aside0.mk l9; have L10 := Aside0.mk l10
      clear l9 g9 l10 g10
      generalize rd_T37 l (r : Nat) = o_ at *
      go_upto_region 9 with (fail)
      have hf := fr_alloc [] wr c 4 (.cells #[.int .i64 o_.f0, .int .i64 o_.f1, .int .i64 o_.f2, .int .i64 o_.f3, .int .i64 o_.f4, .int .i64 o_.f5, .int .i64 o_.f6, .string o_.f7, .string o_.f8, .slice A9 o_.f9.length c9, .slice A10 o_.f10.length c10] 37)
      have G_n := Aside0.mk (G.out.step hf (by decide)); have HD_n := Aside0.mk (dk_keep HD.out hf (by decide)); have HL_n := Aside0.mk (HL.out.keep hf (by decide)); clear G HD HL; have G := G_n; have HD := HD_n; have HL := HL_n; clear G_n HD_n HL_n
      have LB := Aside0.mk (loc_alloc wr c 4 #[.int .i64 o_.f0, .int .i64 o_.f1, .int .i64 o_.f2, .int .i64 o_.f3, .int .i64 o_.f4, .int .i64 o_.f5, .int .i64 o_.f6, .string o_.f7, .string o_.f8, .slice A9 o_.f9.length c9, .slice A10 o_.f10.length c10] 37)
      clear hf
      generalize Dk.paint c wr.heap.size 4 = cLB at *
      generalize wr.alloc (.cells #[.int .i64 o_.f0, .int .i64 o_.f1, .int .i64 o_.f2, .int .i64 o_.f3, .int .i64 o_.f4, .int .i64 o_.f5, .int .i64 o_.f6, .string o_.f7, .string o_.f8, .slice A9 o_.f9.length c9, .slice A10 o_.f10.length c10] 37) = W4 at *
      generalize wr.heap.size = rb at *
      clear q0 q1 q2 q3 q4 q5 q6 q7 q8 q9 q10
      have hcs := LB.out.blk
      obtain ⟨q0, q1, q2, q3, q4, q5, q6, q7, q8, q9, q10⟩ := cells11 W4 rb hcs
      clear hcs
      cases hfw : fewB o_ with
      | false =>
        have HFW := Aside0.mk hfw; clear hfw
        go_wp2_with (go_at_call 22; (with_reducible refine (few_calls o_ A9 c9 A10 c10 _ (Kd.C_below H9.out G.out.bel) L9.out (Kd.C_below H10.out G.out.bel) L10.out).mono ?_); rintro e w1 ⟨rfl, hb1⟩; rw [HFW.out]; have G_n := Aside0.mk (G.out.below hb1); clear G; have G := G_n; clear G_n; clear hb1)
        go_ret
        exact ⟨rfl, G.out.bel⟩
      | true =>
        have HFW := Aside0.mk hfw; clear hfw
        have HZ := Aside0.mk (few_le HFW.out)
        go_upto_region 11 with (go_at_call 22; (with_reducible refine (few_calls o_ A9 c9 A10 c10 _ (Kd.C_below H9.out G.out.bel) L9.out (Kd.C_below H10.out G.out.bel) L10.out).mono ?_); rintro e w1 ⟨rfl, hb1⟩; rw [HFW.out]; have G_n := Aside0.mk (G.out.below hb1); have HD_n := Aside0.mk (HD.out.below hb1); have HL_n := Aside0.mk (HL.out.below hb1); have LB_n := Aside0.mk (LB.out.below hb1); clear G HD HL LB; have G := G_n; have HD := HD_n; have HL := HL_n; have LB := LB_n; clear G_n HD_n HL_n LB_n; clear hb1)
        (try clear q0 q1 q2 q3 q4 q5 q6 q7 q8 q9 q10)
        go_upto_region 12 with (go_at_call 25; (with_reducible refine (room_calls HL.out (HQ.out.fit HE.out)).mono ?_); rintro e w1 ⟨rfl, hb1⟩; have G_n := Aside0.mk (G.out.below hb1); have HD_n := Aside0.mk (HD.out.below hb1); have HL_n := Aside0.mk (HL.out.below hb1); have LB_n := Aside0.mk (LB.out.below hb1); clear G HD HL LB; have G := G_n; have HD := HD_n; have HL := HL_n; have LB := LB_n; clear G_n HD_n HL_n LB_n; clear hb1)
        have hcs := LB.out.blk
        obtain ⟨q0, q1, q2, q3, q4, q5, q6, q7, q8, q9, q10⟩ := cells11 w1 rb hcs
        clear hcs
        obtain ⟨p, er, W', R', e1, e2, e3, ha, hq⟩ := HQ.out.app o_
        have HRM := Aside0.mk HQ.out.room; have HRM2 := Aside0.mk hq.room
        have HA1 := Aside0.mk e1; have HA2 := Aside0.mk e2; have HA3 := Aside0.mk e3; have HA := Aside0.mk ha; have HQ2 := Aside0.mk hq
        clear e1 e2 e3 ha hq
        go_upto_region 13 with (go_at_call 15; (with_reducible refine (append_calls HL.out (HQ.out.fit HE.out) HQ.out.bd1 o_ A9 c9 A10 c10 (Kd.C_below H9.out G.out.bel) L9.out (Kd.C_below H10.out G.out.bel) L10.out HZ.out).mono ?_); rintro e w1 ⟨rfl, hf, hl⟩; rw [HA1.out, HA2.out]; rw [HA3.out] at hl; have G_n := Aside0.mk (G.out.step hf (by decide)); have HD_n := Aside0.mk (dk_keep HD.out hf (by decide)); have LB_n := Aside0.mk (LB.out.keep hf (by decide)); clear G HD LB; have G := G_n; have HD := HD_n; have LB := LB_n; clear G_n HD_n LB_n; clear HL; have HL := Aside0.mk hl; clear hl hf)
        (try clear q0 q1 q2 q3 q4 q5 q6 q7 q8 q9 q10)
        clear HQ
        have HQ := HQ2
        clear HQ2
        have hcs := LB.out.blk
        obtain ⟨q0, q1, q2, q3, q4, q5, q6, q7, q8, q9, q10⟩ := cells11 w1 rb hcs
        clear hcs
        have HW1 := Aside0.mk (show wrap64 (roomW W - 1) = roomW W - 1 by have := HRM.out; unfold wrap64; omega)
        cases hm : mayB o_ with
        | false =>
          have HM := Aside0.mk hm; clear hm
          go_upto_region 15 with (go_at_call 26; (with_reducible refine (may_calls o_ HFW.out A9 c9 A10 c10 _ (Kd.C_below H9.out G.out.bel) L9.out (Kd.C_below H10.out G.out.bel) L10.out).mono ?_); rintro e w1 ⟨rfl, hb1⟩; rw [HM.out]; have G_n := Aside0.mk (G.out.below hb1); have HD_n := Aside0.mk (HD.out.below hb1); have HL_n := Aside0.mk (HL.out.below hb1); clear G HD HL; have G := G_n; have HD := HD_n; have HL := HL_n; clear G_n HD_n HL_n; clear hb1)
          (try clear q0 q1 q2 q3 q4 q5 q6 q7 q8 q9 q10)
          clear LB
          by_cases hfl : r < fl.length
          · have f1 : decide ((r : Int) < (fl.length : Int)) = true := decide_eq_true (by omega)
            have f2 : ((r : Int) < (fl.length : Int)) = True := eq_true (by omega)
            obtain ⟨fd, hA2, hcf⟩ := at_bool HR2.out r hfl
            subst hA2
            replace hcf := pw_cell_below G.out.bel hcf
            have f3 : (0 : Int) ≤ (r : Int) := by omega
            cases hb : fl.getD r false with
            | true =>
              rw [hb] at hcf
              go_upto_region 16 with (fail)
              clear f1 f2 f3 hcf hb
              have HRD := Aside0.mk HQ.out.done.1
              have bz : (roomW W' == roomW W') = true := beq_self_eq_true _
              go_upto_region 17 with (go_at_call 25; (with_reducible refine (room_calls HL.out (HQ.out.fit HE.out)).mono ?_); rintro e w1 ⟨rfl, hb1⟩; have G_n := Aside0.mk (G.out.below hb1); have HD_n := Aside0.mk (HD.out.below hb1); have HL_n := Aside0.mk (HL.out.below hb1); clear G HD HL; have G := G_n; have HD := HD_n; have HL := HL_n; clear G_n HD_n HL_n; clear hb1)
              have bz2 : (roomW W' != roomW W') = false := by simp
              go_upto_region 19 with (first | (go_at_call 16; (with_reducible refine (flush_calls HL.out HD.out HQ.out.ok (by decide) (HQ.out.fit HE.out) HQ.out.bd HQ.out.gap.1 HQ.out.gap.2).mono ?_); rintro e w1 ⟨rfl, c1, hf, hl, hd, ho⟩; obtain ⟨f1, f2, f3, f4⟩ := HQ.out.flush HE.out; rw [f1]; rw [f2] at hl; have G_n := Aside0.mk (G.out.step hf (by decide)); clear G; have G := G_n; clear G_n; clear HD HL HQ; have HD := Aside0.mk hd; have HL := Aside0.mk hl; have HQ := Aside0.mk f3; clear hl hd hf ho f1 f2 f3 f4) | (go_at_call 25; (with_reducible refine (room_calls HL.out (HQ.out.fit HE.out)).mono ?_); rintro e w1 ⟨rfl, hb1⟩; rw [HRD.out]; have G_n := Aside0.mk (G.out.below hb1); have HD_n := Aside0.mk (HD.out.below hb1); have HL_n := Aside0.mk (HL.out.below hb1); clear G HD HL; have G := G_n; have HD := HD_n; have HL := HL_n; clear G_n HD_n HL_n; clear hb1))
              go_wp2
              go_roundw
              case rel => exact ⟨r + 1, _, _, _, _, _, by first | rfl | (rw [hwk]) | go_num, ⟨by have := HLT.out; omega⟩, G, HL, HD, HQ⟩
              case measure =>
                have := HLT.out
                (try rw [hwk])
                show l.length - (intOf (.int .i64 ((r + 1 : Nat) : Int))).toNat < l.length - (intOf (.int .i64 (r : Int))).toNat
                simp only [intOf]; omega
            | false =>
              rw [hb] at hcf
              go_wp2
              go_roundw
              case rel => exact ⟨r + 1, _, _, _, _, _, by first | rfl | (rw [hwk]) | go_num, ⟨by have := HLT.out; omega⟩, G, HL, HD, HQ⟩
              case measure =>
                have := HLT.out
                (try rw [hwk])
                show l.length - (intOf (.int .i64 ((r + 1 : Nat) : Int))).toNat < l.length - (intOf (.int .i64 (r : Int))).toNat
                simp only [intOf]; omega
          · have f1 : decide ((r : Int) < (fl.length : Int)) = false := decide_eq_false (by omega)
            have f2 : ((r : Int) < (fl.length : Int)) = False := eq_false (by omega)
            go_wp2
            go_roundw
            case rel => exact ⟨r + 1, _, _, _, _, _, by first | rfl | (rw [hwk]) | go_num, ⟨by have := HLT.out; omega⟩, G, HL, HD, HQ⟩
            case measure =>
              have := HLT.out
              (try rw [hwk])
              show l.length - (intOf (.int .i64 ((r + 1 : Nat) : Int))).toNat < l.length - (intOf (.int .i64 (r : Int))).toNat
              simp only [intOf]; omega
        | true =>
          have HM := Aside0.mk hm; clear hm
          obtain ⟨o1, o2, o3⟩ := HA.out.room HM.out
          have x1 : decide (roomW W' < wrap64 (roomW W - 1)) = false := decide_eq_false (by rw [HW1.out]; omega)
          have x2 : (roomW W' < wrap64 (roomW W - 1)) = False := eq_false (by rw [HW1.out]; omega)
          have x3 : decide (roomW W' < 0) = false := decide_eq_false (by have := HRM2.out; omega)
          have x4 : (roomW W' < 0) = False := eq_false (by have := HRM2.out; omega)
          clear o3
          rcases o1 with x5 | x5
          · subst x5
            clear o2
            go_upto_region 15 with (first | (go_at_call 26; (with_reducible refine (may_calls o_ HFW.out A9 c9 A10 c10 _ (Kd.C_below H9.out G.out.bel) L9.out (Kd.C_below H10.out G.out.bel) L10.out).mono ?_); rintro e w1 ⟨rfl, hb1⟩; rw [HM.out]; have G_n := Aside0.mk (G.out.below hb1); have HD_n := Aside0.mk (HD.out.below hb1); have HL_n := Aside0.mk (HL.out.below hb1); clear G HD HL; have G := G_n; have HD := HD_n; have HL := HL_n; clear G_n HD_n HL_n; clear hb1) | (go_at_call 25; (with_reducible refine (room_calls HL.out (HQ.out.fit HE.out)).mono ?_); rintro e w1 ⟨rfl, hb1⟩; have G_n := Aside0.mk (G.out.below hb1); have HD_n := Aside0.mk (HD.out.below hb1); have HL_n := Aside0.mk (HL.out.below hb1); clear G HD HL; have G := G_n; have HD := HD_n; have HL := HL_n; clear G_n HD_n HL_n; clear hb1))
            (try clear q0 q1 q2 q3 q4 q5 q6 q7 q8 q9 q10)
            clear LB x1 x2 x3 x4
            by_cases hfl : r < fl.length
            · have f1 : decide ((r : Int) < (fl.length : Int)) = true := decide_eq_true (by omega)
              have f2 : ((r : Int) < (fl.length : Int)) = True := eq_true (by omega)
              obtain ⟨fd, hA2, hcf⟩ := at_bool HR2.out r hfl
              subst hA2
              replace hcf := pw_cell_below G.out.bel hcf
              have f3 : (0 : Int) ≤ (r : Int) := by omega
              cases hb : fl.getD r false with
              | true =>
                rw [hb] at hcf
                go_upto_region 16 with (fail)
                clear f1 f2 f3 hcf hb
                have HRD := Aside0.mk HQ.out.done.1
                have bz : (roomW W' == roomW W') = true := beq_self_eq_true _
                go_upto_region 17 with (go_at_call 25; (with_reducible refine (room_calls HL.out (HQ.out.fit HE.out)).mono ?_); rintro e w1 ⟨rfl, hb1⟩; have G_n := Aside0.mk (G.out.below hb1); have HD_n := Aside0.mk (HD.out.below hb1); have HL_n := Aside0.mk (HL.out.below hb1); clear G HD HL; have G := G_n; have HD := HD_n; have HL := HL_n; clear G_n HD_n HL_n; clear hb1)
                have bz2 : (roomW W' != roomW W') = false := by simp
                go_upto_region 19 with (first | (go_at_call 16; (with_reducible refine (flush_calls HL.out HD.out HQ.out.ok (by decide) (HQ.out.fit HE.out) HQ.out.bd HQ.out.gap.1 HQ.out.gap.2).mono ?_); rintro e w1 ⟨rfl, c1, hf, hl, hd, ho⟩; obtain ⟨f1, f2, f3, f4⟩ := HQ.out.flush HE.out; rw [f1]; rw [f2] at hl; have G_n := Aside0.mk (G.out.step hf (by decide)); clear G; have G := G_n; clear G_n; clear HD HL HQ; have HD := Aside0.mk hd; have HL := Aside0.mk hl; have HQ := Aside0.mk f3; clear hl hd hf ho f1 f2 f3 f4) | (go_at_call 25; (with_reducible refine (room_calls HL.out (HQ.out.fit HE.out)).mono ?_); rintro e w1 ⟨rfl, hb1⟩; rw [HRD.out]; have G_n := Aside0.mk (G.out.below hb1); have HD_n := Aside0.mk (HD.out.below hb1); have HL_n := Aside0.mk (HL.out.below hb1); clear G HD HL; have G := G_n; have HD := HD_n; have HL := HL_n; clear G_n HD_n HL_n; clear hb1))
                go_wp2
                go_roundw
                case rel => exact ⟨r + 1, _, _, _, _, _, by first | rfl | (rw [hwk]) | go_num, ⟨by have := HLT.out; omega⟩, G, HL, HD, HQ⟩
                case measure =>
                  have := HLT.out
                  (try rw [hwk])
                  show l.length - (intOf (.int .i64 ((r + 1 : Nat) : Int))).toNat < l.length - (intOf (.int .i64 (r : Int))).toNat
                  simp only [intOf]; omega
              | false =>
                rw [hb] at hcf
                go_wp2
                go_roundw
                case rel => exact ⟨r + 1, _, _, _, _, _, by first | rfl | (rw [hwk]) | go_num, ⟨by have := HLT.out; omega⟩, G, HL, HD, HQ⟩
                case measure =>
                  have := HLT.out
                  (try rw [hwk])
                  show l.length - (intOf (.int .i64 ((r + 1 : Nat) : Int))).toNat < l.length - (intOf (.int .i64 (r : Int))).toNat
                  simp only [intOf]; omega
            · have f1 : decide ((r : Int) < (fl.length : Int)) = false := decide_eq_false (by omega)
              have f2 : ((r : Int) < (fl.length : Int)) = False := eq_false (by omega)
              go_wp2
              go_roundw
              case rel => exact ⟨r + 1, _, _, _, _, _, by first | rfl | (rw [hwk]) | go_num, ⟨by have := HLT.out; omega⟩, G, HL, HD, HQ⟩
              case measure =>
                have := HLT.out
                (try rw [hwk])
                show l.length - (intOf (.int .i64 ((r + 1 : Nat) : Int))).toNat < l.length - (intOf (.int .i64 (r : Int))).toNat
                simp only [intOf]; omega
          · subst x5
            have o3 := o2 rfl
            have x6 : decide (0 < roomW W) = false := decide_eq_false (by omega)
            have x7 : (0 < roomW W) = False := eq_false (by omega)
            clear o2 o3
            go_upto_region 15 with (first | (go_at_call 26; (with_reducible refine (may_calls o_ HFW.out A9 c9 A10 c10 _ (Kd.C_below H9.out G.out.bel) L9.out (Kd.C_below H10.out G.out.bel) L10.out).mono ?_); rintro e w1 ⟨rfl, hb1⟩; rw [HM.out]; have G_n := Aside0.mk (G.out.below hb1); have HD_n := Aside0.mk (HD.out.below hb1); have HL_n := Aside0.mk (HL.out.below hb1); clear G HD HL; have G := G_n; have HD := HD_n; have HL := HL_n; clear G_n HD_n HL_n; clear hb1) | (go_at_call 25; (with_reducible refine (room_calls HL.out (HQ.out.fit HE.out)).mono ?_); rintro e w1 ⟨rfl, hb1⟩; have G_n := Aside0.mk (G.out.below hb1); have HD_n := Aside0.mk (HD.out.below hb1); have HL_n := Aside0.mk (HL.out.below hb1); clear G HD HL; have G := G_n; have HD := HD_n; have HL := HL_n; clear G_n HD_n HL_n; clear hb1))
            (try clear q0 q1 q2 q3 q4 q5 q6 q7 q8 q9 q10)
            clear LB x1 x2 x3 x4 x6 x7
            by_cases hfl : r < fl.length
            · have f1 : decide ((r : Int) < (fl.length : Int)) = true := decide_eq_true (by omega)
              have f2 : ((r : Int) < (fl.length : Int)) = True := eq_true (by omega)
              obtain ⟨fd, hA2, hcf⟩ := at_bool HR2.out r hfl
              subst hA2
              replace hcf := pw_cell_below G.out.bel hcf
              have f3 : (0 : Int) ≤ (r : Int) := by omega
              cases hb : fl.getD r false with
              | true =>
                rw [hb] at hcf
                go_upto_region 16 with (fail)
                clear f1 f2 f3 hcf hb
                have HRD := Aside0.mk HQ.out.done.1
                have bz : (roomW W' == roomW W') = true := beq_self_eq_true _
                go_upto_region 17 with (go_at_call 25; (with_reducible refine (room_calls HL.out (HQ.out.fit HE.out)).mono ?_); rintro e w1 ⟨rfl, hb1⟩; have G_n := Aside0.mk (G.out.below hb1); have HD_n := Aside0.mk (HD.out.below hb1); have HL_n := Aside0.mk (HL.out.below hb1); clear G HD HL; have G := G_n; have HD := HD_n; have HL := HL_n; clear G_n HD_n HL_n; clear hb1)
                have bz2 : (roomW W' != roomW W') = false := by simp
                go_upto_region 19 with (first | (go_at_call 16; (with_reducible refine (flush_calls HL.out HD.out HQ.out.ok (by decide) (HQ.out.fit HE.out) HQ.out.bd HQ.out.gap.1 HQ.out.gap.2).mono ?_); rintro e w1 ⟨rfl, c1, hf, hl, hd, ho⟩; obtain ⟨f1, f2, f3, f4⟩ := HQ.out.flush HE.out; rw [f1]; rw [f2] at hl; have G_n := Aside0.mk (G.out.step hf (by decide)); clear G; have G := G_n; clear G_n; clear HD HL HQ; have HD := Aside0.mk hd; have HL := Aside0.mk hl; have HQ := Aside0.mk f3; clear hl hd hf ho f1 f2 f3 f4) | (go_at_call 25; (with_reducible refine (room_calls HL.out (HQ.out.fit HE.out)).mono ?_); rintro e w1 ⟨rfl, hb1⟩; rw [HRD.out]; have G_n := Aside0.mk (G.out.below hb1); have HD_n := Aside0.mk (HD.out.below hb1); have HL_n := Aside0.mk (HL.out.below hb1); clear G HD HL; have G := G_n; have HD := HD_n; have HL := HL_n; clear G_n HD_n HL_n; clear hb1))
                go_wp2
                go_roundw
                case rel => exact ⟨r + 1, _, _, _, _, _, by first | rfl | (rw [hwk]) | go_num, ⟨by have := HLT.out; omega⟩, G, HL, HD, HQ⟩
                case measure =>
                  have := HLT.out
                  (try rw [hwk])
                  show l.length - (intOf (.int .i64 ((r + 1 : Nat) : Int))).toNat < l.length - (intOf (.int .i64 (r : Int))).toNat
                  simp only [intOf]; omega
              | false =>
                rw [hb] at hcf
                go_wp2
                go_roundw
                case rel => exact ⟨r + 1, _, _, _, _, _, by first | rfl | (rw [hwk]) | go_num, ⟨by have := HLT.out; omega⟩, G, HL, HD, HQ⟩
                case measure =>
                  have := HLT.out
                  (try rw [hwk])
                  show l.length - (intOf (.int .i64 ((r + 1 : Nat) : Int))).toNat < l.length - (intOf (.int .i64 (r : Int))).toNat
                  simp only [intOf]; omega
            · have f1 : decide ((r : Int) < (fl.length : Int)) = false := decide_eq_false (by omega)
              have f2 : ((r : Int) < (fl.length : Int)) = False := eq_false (by omega)
              go_wp2
              go_roundw
              case rel => exact ⟨r + 1, _, _, _, _, _, by first | rfl | (rw [hwk]) | go_num, ⟨by have := HLT.out; omega⟩, G, HL, HD, HQ⟩
              case measure =>
                have := HLT.out
                (try rw [hwk])
                show l.length - (intOf (.int .i64 ((r + 1 : Nat) : Int))).toNat < l.length - (intOf (.int .i64 (r : Int))).toNat
                simp only [intOf]; omega
    · obtain rfl : r = l.length := by have := HRL.out; omega
      clear hlt
      go_wp2
      go_ret
      exact ⟨rfl, G.out.bel⟩
def careenlaw05_WalRoom.f (a0 : Int) (l1 : List S37) (l2 : List Bool) : Option Bool := some true
theorem careenlaw05_WalRoom.calls (a0 : Int) (A1 : Option Addr) (c1 : Nat) (l1 : List S37) (A2 : Option Addr) (c2 : Nat) (l2 : List Bool) (r : Bool) (w : World) (hr1 : Kd.C k37 w A1 l1.length l1) (hc1 : l1.length ≤ c1) (hr2 : Kd.C Kd.bool w A2 l2.length l2) (hc2 : l2.length ≤ c2) (h : careenlaw05_WalRoom.f a0 l1 l2 = some r) :
    Calls Try.prog 5 #[.int .i64 a0, .slice A1 l1.length c1, .slice A2 l2.length c2] w fun e w' => e = .returned (.bool r) ∧ Below w.heap.size w w' := by
  obtain rfl := Option.some.inj h
  exact room_walk a0 A1 c1 l1 A2 c2 l2 w hr1 hc1 hr2 hc2
end Go.Proofs.Ytbnglmeljbiglaa.X4
