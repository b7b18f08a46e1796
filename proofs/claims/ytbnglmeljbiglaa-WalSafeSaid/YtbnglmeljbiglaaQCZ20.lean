import Derived.Test.YtbnglmeljbiglaaQCZ0
import Derived.Test.YtbnglmeljbiglaaQCZ1
import Derived.Test.YtbnglmeljbiglaaQCZ2
import Derived.Test.YtbnglmeljbiglaaQCZ3
import Derived.Test.YtbnglmeljbiglaaQCZ4
import Derived.Test.YtbnglmeljbiglaaQCZ5
import Derived.Test.YtbnglmeljbiglaaQCZ6
import Derived.Test.YtbnglmeljbiglaaQCZ7
import Derived.Test.YtbnglmeljbiglaaQCZ8
import Derived.Test.YtbnglmeljbiglaaQCZ9
import Derived.Test.YtbnglmeljbiglaaQCZ10
import Derived.Test.YtbnglmeljbiglaaQCZ11
import Derived.Test.YtbnglmeljbiglaaQCZ12
import Derived.Test.YtbnglmeljbiglaaQCZ13
import Derived.Test.YtbnglmeljbiglaaQCZ14
import Derived.Test.YtbnglmeljbiglaaQCZ15
import Derived.Test.YtbnglmeljbiglaaQCZ16
import Derived.Test.YtbnglmeljbiglaaQCZ17
import Derived.Test.YtbnglmeljbiglaaQCZ18
import Derived.Test.YtbnglmeljbiglaaQCZ19
set_option maxRecDepth 8192
namespace Go.Proofs.Ytbnglmeljbiglaa.X4
open Go.Proofs.Ytbnglmeljbiglaa.Rgn
open Go.Proofs.Ytbnglmeljbiglaa.Pt Go.Proofs.Ytbnglmeljbiglaa.Ptb Go.Proofs.Ytbnglmeljbiglaa.Rp Go.Proofs.Ytbnglmeljbiglaa.Wl Go Go.RowKit Go.ChangeMaps Go.Proofs.Ytbnglmeljbiglaa.Arr Go.Proofs.Ytbnglmeljbiglaa.Mp Go.Proofs.Ytbnglmeljbiglaa.Ow Go.Proofs.Ytbnglmeljbiglaa.Dk Go.Proofs.Ytbnglmeljbiglaa.Fr Go.Proofs.YtbnglmeljbiglaaW.PrintWords Go.Proofs.YtbnglmeljbiglaaW.PrintLast Go.Proofs.YtbnglmeljbiglaaW.PrintMore
set_option linter.unusedVariables false
set_option linter.unusedSimpArgs false
set_option maxHeartbeats 16000000 in
set_option maxRecDepth 20000 in
theorem safe_walk (A1 : Option Addr) (c1 : Nat) (l : List S37) (A2 : Option Addr) (c2 : Nat) (fl : List Bool) (w : World) (hr1 : Kd.C k37 w A1 l.length l) (hc1 : l.length ≤ c1) (hr2 : Kd.C Kd.bool w A2 fl.length fl) (hc2 : fl.length ≤ c2) : Calls Try.prog 4 #[.slice A1 l.length c1, .slice A2 fl.length c2] w fun e w' => e = .returned (.bool true) ∧ Below w.heap.size w w' := by
  have HR1 := Aside0.mk hr1; have HC1 := Aside0.mk hc1; have HR2 := Aside0.mk hr2; have HC2 := Aside0.mk hc2; have HE := Aside0.mk (show (1 : Int) < 4294967290 by decide)
  clear hr1 hc1 hr2 hc2
  have G := Aside0.mk (Gr.refl w)
  go_enter Try.func4, Try.ntmps4
  have HQ := Aside0.mk (qs_new (n := 64) (L := 64) (by decide) (by decide) (by decide))
  have HNi := Aside0.mk (show -9223372036854775808 ≤ (64 : Int) ∧ (64 : Int) < 9223372036854775808 by decide)
  go_upto_region 2 with (go_at_call 11; (with_reducible refine (newdisk64 G.out).mono ?_); rintro e w1 ⟨g, rfl, hk, hf⟩; have G_n := Aside0.mk (G.out.step hf (by decide)); clear G; have G := G_n; clear G_n; have HD := Aside0.mk hk; clear hk hf)
  go_upto_region 3 with (go_at_call 12; (with_reducible refine (lnew_calls HD.out HQ.out.ok 0 64 (by decide) HNi.out HQ.out.lies).mono ?_); rintro e w1 ⟨gl, m, c1, rfl, hf, hl, hd⟩; have G_n := Aside0.mk (G.out.step hf (by decide)); clear G; have G := G_n; clear G_n; clear HD; have HD := Aside0.mk hd; have HL := Aside0.mk hl; clear hl hd hf)
  generalize newD 64 = d0 at *
  generalize newW 0 64 = W0 at *
  generalize (fun _ => [] : Int → List Rc_) = R0 at *
  generalize (fun _ => 0 : Int → Int) = e0 at *
  by_cases ya : 100 < l.length
  · have z1 : decide ((100 : Int) < (l.length : Int)) = true := decide_eq_true (by omega)
    have z2 : ((100 : Int) < (l.length : Int)) = True := eq_true (by omega)
    go_wp2_with (go_at_call 13; (with_reducible refine (awake_calls _).mono ?_); rintro e w1 ⟨rfl, hb1⟩; have G_n := Aside0.mk (G.out.below hb1); have HD_n := Aside0.mk (HD.out.below hb1); have HL_n := Aside0.mk (HL.out.below hb1); clear G HD HL; have G := G_n; have HD := HD_n; have HL := HL_n; clear G_n HD_n HL_n; clear hb1)
    go_ret
    exact ⟨rfl, G.out.bel⟩
  have ya1 : decide ((100 : Int) < (l.length : Int)) = false := decide_eq_false (by omega)
  have ya2 : ((100 : Int) < (l.length : Int)) = False := eq_false (by omega)
  by_cases yb : 200 < fl.length
  · have z1 : decide ((200 : Int) < (fl.length : Int)) = true := decide_eq_true (by omega)
    have z2 : ((200 : Int) < (fl.length : Int)) = True := eq_true (by omega)
    go_wp2_with (go_at_call 13; (with_reducible refine (awake_calls _).mono ?_); rintro e w1 ⟨rfl, hb1⟩; have G_n := Aside0.mk (G.out.below hb1); have HD_n := Aside0.mk (HD.out.below hb1); have HL_n := Aside0.mk (HL.out.below hb1); clear G HD HL; have G := G_n; have HD := HD_n; have HL := HL_n; clear G_n HD_n HL_n; clear hb1)
    go_ret
    exact ⟨rfl, G.out.bel⟩
  have yb1 : decide ((200 : Int) < (fl.length : Int)) = false := decide_eq_false (by omega)
  have yb2 : ((200 : Int) < (fl.length : Int)) = False := eq_false (by omega)
  have HN1 := Aside0.mk (show l.length ≤ 100 by omega); have HN2 := Aside0.mk (show fl.length ≤ 200 by omega)
  go_upto_region 5 with (go_at_call 13; (with_reducible refine (awake_calls _).mono ?_); rintro e w1 ⟨rfl, hb1⟩; have G_n := Aside0.mk (G.out.below hb1); have HD_n := Aside0.mk (HD.out.below hb1); have HL_n := Aside0.mk (HL.out.below hb1); clear G HD HL; have G := G_n; have HD := HD_n; have HL := HL_n; clear G_n HD_n HL_n; clear hb1)
  clear ya ya1 ya2 yb yb1 yb2
  go_upto_region 7 with (fail)
  go_loopw [9, 10, 51] (fun sv fv v wr => ∃ (r : Nat) (W : WS) (R : Int → List Rc_) (d : DS) (e : Int → Int) (c : Nat → Nat) (ss fs : List Int), v = .int .i64 r ∧ Aside0 (r ≤ l.length) ∧ Aside0 (Gr w wr c) ∧ Aside0 (LO wr c gl m g W) ∧ Aside0 (DK wr (Col c 1) g d) ∧ Aside0 (Qs 64 1 W R d e) ∧ Aside0 (NL (Kd.int .i64) 3 w.heap.size wr c 6 sv ss) ∧ Aside0 (NL (Kd.int .i64) 3 w.heap.size wr c 5 fv fs) ∧ Aside0 (ss.length + fs.length ≤ r) ∧ Aside0 (∀ x ∈ ss, sctr x < W.first ∧ (-9223372036854775808 ≤ x ∧ x < 9223372036854775808)) ∧ Aside0 (∀ x ∈ fs, (W.first ≤ sctr x ∧ sctr x < nxW W) ∧ (-9223372036854775808 ≤ x ∧ x < 9223372036854775808))) (fun _ _ v _ => l.length - (intOf v).toNat)
  case atStart => exact ⟨0, _, _, _, _, _, [], [], rfl, ⟨by omega⟩, G, HL, HD, HQ, ⟨nl_nil _ _ _ _ _ _⟩, ⟨nl_nil _ _ _ _ _ _⟩, ⟨Nat.le_refl _⟩, ⟨fun x h => by cases h⟩, ⟨fun x h => by cases h⟩⟩
  case round =>
    clear G HL HD HQ
    obtain ⟨r, W, R, d, e, c, ss, fs, rfl, HRL, G, HL, HD, HQ, HS, HF, HLN, HSI, HFI⟩ := hrel
    obtain ⟨As, cps, hsv⟩ := HS.out.slice
    subst hsv
    obtain ⟨Af, cpf, hfv⟩ := HF.out.slice
    subst hfv
    by_cases hlt : r < l.length
    · skip
      have h1 : (r : Int) < (l.length : Int) := by omega
      have hwk : wrap64 ((r : Int) + 1) = ((r + 1 : Nat) : Int) := by have := HN1.out; unfold wrap64; omega
      have HLT := Aside0.mk hlt
      obtain ⟨ad, A9, c9, A10, c10, hA0, q0, q1, q2, q3, q4, q5, q6, q7, q8, q9, q10, l9, g9, l10, g10⟩ := at_T37 HR1.out (r : Int) (by omega) h1
      subst hA0
      replace q0 := pw_cell_below G.out.bel q0
      replace q1 := pw_cell_below G.out.bel q1
      replace q2 := pw_cell_below G.out.bel q2
      replace q3 := pw_cell_below G.out.bel q3
      replace q4 := pw_cell_below G.out.bel q4
      replace q5 := pw_cell_below G.out.bel q5
      replace q6 := pw_cell_below G.out.bel q6
      replace q7 := pw_cell_below G.out.bel q7
      replace q8 := pw_cell_below G.out.bel q8
      replace q9 := pw_cell_below G.out.bel q9
      replace q10 := pw_cell_below G.out.bel q10
      rw [Int.toNat_natCast] at q0 q1 q2 q3 q4 q5 q6 q7 q8 q9 q10
      have H9 := Aside0.mk g9; have H10 := Aside0.mk g10; have L9 := Aside0.mk l9; have L10 := Aside0.mk l10
      clear l9 g9 l10 g10
      generalize rd_T37 l (r : Nat) = o_ at *
      go_upto_region 9 with (fail)
      have hf := fr_alloc [] wr c 4 (.cells #[.int .i64 o_.f0, .int .i64 o_.f1, .int .i64 o_.f2, .int .i64 o_.f3, .int .i64 o_.f4, .int .i64 o_.f5, .int .i64 o_.f6, .string o_.f7, .string o_.f8, .slice A9 o_.f9.length c9, .slice A10 o_.f10.length c10] 37)
      have G_n := Aside0.mk (G.out.step hf (by decide)); have HD_n := Aside0.mk (dk_keep HD.out hf (by decide)); have HL_n := Aside0.mk (HL.out.keep hf (by decide)); have HS_n := Aside0.mk (NL.keep HS.out G.out hf (by decide) (by decide)); have HF_n := Aside0.mk (NL.keep HF.out G.out hf (by decide) (by decide)); clear G HD HL HS HF; have G := G_n; have HD := HD_n; have HL := HL_n; have HS := HS_n; have HF := HF_n; clear G_n HD_n HL_n HS_n HF_n
      have LB := Aside0.mk (loc_alloc wr c 4 #[.int .i64 o_.f0, .int .i64 o_.f1, .int .i64 o_.f2, .int .i64 o_.f3, .int .i64 o_.f4, .int .i64 o_.f5, .int .i64 o_.f6, .string o_.f7, .string o_.f8, .slice A9 o_.f9.length c9, .slice A10 o_.f10.length c10] 37)
      clear hf
      generalize Dk.paint c wr.heap.size 4 = cLB at *
      generalize wr.alloc (.cells #[.int .i64 o_.f0, .int .i64 o_.f1, .int .i64 o_.f2, .int .i64 o_.f3, .int .i64 o_.f4, .int .i64 o_.f5, .int .i64 o_.f6, .string o_.f7, .string o_.f8, .slice A9 o_.f9.length c9, .slice A10 o_.f10.length c10] 37) = W4 at *
      generalize wr.heap.size = rb at *
      clear q0 q1 q2 q3 q4 q5 q6 q7 q8 q9 q10
      have hcs := LB.out.blk
      obtain ⟨q0, q1, q2, q3, q4, q5, q6, q7, q8, q9, q10⟩ := cells11 W4 rb hcs
      clear hcs
      cases hfw : fewB o_ with
      | false =>
        have HFW := Aside0.mk hfw; clear hfw
        go_wp2_with (go_at_call 22; (with_reducible refine (few_calls o_ A9 c9 A10 c10 _ (Kd.C_below H9.out G.out.bel) L9.out (Kd.C_below H10.out G.out.bel) L10.out).mono ?_); rintro e w1 ⟨rfl, hb1⟩; rw [HFW.out]; have G_n := Aside0.mk (G.out.below hb1); clear G; have G := G_n; clear G_n; clear hb1)
        go_ret
        exact ⟨rfl, G.out.bel⟩
      | true =>
        have HFW := Aside0.mk hfw; clear hfw
        have HZ := Aside0.mk (few_le HFW.out)
        go_upto_region 11 with (go_at_call 22; (with_reducible refine (few_calls o_ A9 c9 A10 c10 _ (Kd.C_below H9.out G.out.bel) L9.out (Kd.C_below H10.out G.out.bel) L10.out).mono ?_); rintro e w1 ⟨rfl, hb1⟩; rw [HFW.out]; have G_n := Aside0.mk (G.out.below hb1); have HD_n := Aside0.mk (HD.out.below hb1); have HL_n := Aside0.mk (HL.out.below hb1); have HS_n := Aside0.mk (NL.below HS.out hb1); have HF_n := Aside0.mk (NL.below HF.out hb1); have LB_n := Aside0.mk (LB.out.below hb1); clear G HD HL HS HF LB; have G := G_n; have HD := HD_n; have HL := HL_n; have HS := HS_n; have HF := HF_n; have LB := LB_n; clear G_n HD_n HL_n HS_n HF_n LB_n; clear hb1)
        (try clear q0 q1 q2 q3 q4 q5 q6 q7 q8 q9 q10)
        have hcs := LB.out.blk
        obtain ⟨q0, q1, q2, q3, q4, q5, q6, q7, q8, q9, q10⟩ := cells11 w1 rb hcs
        clear hcs
        obtain ⟨p, er, W', R', e1, e2, e3, ha, hq⟩ := HQ.out.app o_
        have HP1 := Aside0.mk HQ.out.place; have HP2 := Aside0.mk hq.place
        have HA1 := Aside0.mk e1; have HA2 := Aside0.mk e2; have HA3 := Aside0.mk e3; have HA := Aside0.mk ha; have HQ2 := Aside0.mk hq
        clear e1 e2 e3 ha hq
        go_upto_region 12 with (go_at_call 15; (with_reducible refine (append_calls HL.out (HQ.out.fit HE.out) HQ.out.bd1 o_ A9 c9 A10 c10 (Kd.C_below H9.out G.out.bel) L9.out (Kd.C_below H10.out G.out.bel) L10.out HZ.out).mono ?_); rintro e w1 ⟨rfl, hf, hl⟩; rw [HA1.out, HA2.out]; rw [HA3.out] at hl; have G_n := Aside0.mk (G.out.step hf (by decide)); have HD_n := Aside0.mk (dk_keep HD.out hf (by decide)); have HS_n := Aside0.mk (NL.keep HS.out G.out hf (by decide) (by decide)); have HF_n := Aside0.mk (NL.keep HF.out G.out hf (by decide) (by decide)); have LB_n := Aside0.mk (LB.out.keep hf (by decide)); clear G HD HS HF LB; have G := G_n; have HD := HD_n; have HS := HS_n; have HF := HF_n; have LB := LB_n; clear G_n HD_n HS_n HF_n LB_n; clear HL; have HL := Aside0.mk hl; clear hl hf)
        (try clear q0 q1 q2 q3 q4 q5 q6 q7 q8 q9 q10)
        clear HQ LB
        have HQ := HQ2
        clear HQ2
        have hsi : ∀ x ∈ ss, sctr x < W'.first ∧ (-9223372036854775808 ≤ x ∧ x < 9223372036854775808) := fun x hx => by rw [HA.out.first]; exact HSI.out x hx
        clear HSI
        have HSI := Aside0.mk hsi; clear hsi
        have hfi : ∀ x ∈ fs, (W'.first ≤ sctr x ∧ sctr x < nxW W') ∧ (-9223372036854775808 ≤ x ∧ x < 9223372036854775808) := fun x hx => by rw [HA.out.first]; have := HFI.out x hx; have := HA.out.nx; omega
        by_cases her : er = 0
        · subst her
          have HLM := Aside0.mk (show (fs.length + 1) * 8 ≤ 140737488355328 by have := HLN.out; have := HN1.out; have := HLT.out; omega)
          have hfi2 : ∀ x ∈ fs ++ [p], (W'.first ≤ sctr x ∧ sctr x < nxW W') ∧ (-9223372036854775808 ≤ x ∧ x < 9223372036854775808) := fun x hx => by
            rcases List.mem_append.1 hx with hx | hx
            · exact hfi x hx
            · rw [List.mem_singleton.1 hx, HA.out.first]
              have := HA.out.sec rfl; have := HA.out.ends rfl; have := HP1.out; have := HP2.out; omega
          clear HFI hfi
          have HFI := Aside0.mk hfi2; clear hfi2
          go_upto_region 14 with ((with_reducible refine gate_builtin (b := .append) (xs := #[.tmp 67, .tmp 69]) rfl ?_); at_builtin; refine Kd.N_append (Kd.int .i64) (w0 := w) w.heap.size rfl (.tmp 67) (.tmp 69) 54 3 (.int .i64 0) 8 rfl Try.underlying54 info_int rfl (by decide) (by decide) (.slice Af fs.length cpf) fs p [.int .i64 p] _ (fun k => k < w.heap.size) rfl rfl (fk_int _ _ _) HF.out.old (ok_new _ _ _ _) (HF.out.paint 5) G.out.bel G.out.bel.size HLM.out ?_; intro v1 w5 hv hb5 hg hat; have hf := fr_grown hg 5 HF.out.own; have G_n := Aside0.mk (G.out.step hf (by decide)); have HD_n := Aside0.mk (dk_keep HD.out hf (by decide)); have HL_n := Aside0.mk (HL.out.keep hf (by decide)); have HS_n := Aside0.mk (NL.keep HS.out G.out hf (by decide) (by decide)); clear G HD HL HS; have G := G_n; have HD := HD_n; have HL := HL_n; have HS := HS_n; clear G_n HD_n HL_n HS_n; clear HF; have HF := Aside0.mk (show NL (Kd.int .i64) 3 w.heap.size w5 _ 5 v1 (fs ++ [p]) from hv); clear hv hb5 hg hat hf)
          have hln : ss.length + (fs ++ [p]).length ≤ r + 1 := by rw [List.length_append, List.length_singleton]; have := HLN.out; omega
          clear HLN HLM
          have HLN := Aside0.mk hln; clear hln
          generalize fs ++ [p] = fs1 at *
          obtain ⟨Af1, cpf1, hv1⟩ := HF.out.slice
          subst hv1
          have HDN := Aside0.mk (show (doneW (doneW W')).first = nxW W' from HQ.out.done.2.1); have HFN := Aside0.mk HQ.out.done.2.2.2.2
          by_cases hfl : r < fl.length
          · have f1 : decide ((r : Int) < (fl.length : Int)) = true := decide_eq_true (by omega)
            have f2 : ((r : Int) < (fl.length : Int)) = True := eq_true (by omega)
            obtain ⟨fd, hA2, hcf⟩ := at_bool HR2.out r hfl
            subst hA2
            replace hcf := pw_cell_below G.out.bel hcf
            have f3 : (0 : Int) ≤ (r : Int) := by omega
            cases hb : fl.getD r false with
            | true =>
              rw [hb] at hcf
              go_upto_region 15 with (fail)
              clear f1 f2 f3 hcf hb
              go_upto_region 17 with (first | (go_at_call 16; (with_reducible refine (flush_calls HL.out HD.out HQ.out.ok (by decide) (HQ.out.fit HE.out) HQ.out.bd HQ.out.gap.1 HQ.out.gap.2).mono ?_); rintro e w1 ⟨rfl, c1, hf, hl, hd, ho⟩; obtain ⟨f1, f2, f3, f4⟩ := HQ.out.flush HE.out; rw [f1]; rw [f2] at hl; have G_n := Aside0.mk (G.out.step hf (by decide)); have HS_n := Aside0.mk (NL.keep HS.out G.out hf (by decide) (by decide)); have HF_n := Aside0.mk (NL.keep HF.out G.out hf (by decide) (by decide)); clear G HS HF; have G := G_n; have HS := HS_n; have HF := HF_n; clear G_n HS_n HF_n; clear HD HL HQ; have HD := Aside0.mk hd; have HL := Aside0.mk hl; have HQ := Aside0.mk f3; clear hl hd hf ho f1 f2 f3 f4) | (go_at_call 23; (with_reducible refine (waiting_calls _ _ _ _ HD.out).mono ?_); rintro e w1 ⟨rfl, hb1⟩; rw [HQ.out.wait]; have G_n := Aside0.mk (G.out.below hb1); have HD_n := Aside0.mk (HD.out.below hb1); have HL_n := Aside0.mk (HL.out.below hb1); have HS_n := Aside0.mk (NL.below HS.out hb1); have HF_n := Aside0.mk (NL.below HF.out hb1); clear G HD HL HS HF; have G := G_n; have HD := HD_n; have HL := HL_n; have HS := HS_n; have HF := HF_n; clear G_n HD_n HL_n HS_n HF_n; clear hb1))
              have HLM := Aside0.mk (show (ss.length + fs1.length) * 8 ≤ 140737488355328 by have := HLN.out; have := HN1.out; have := HLT.out; omega)
              have h9 : (doneW (doneW W')).first = nxW W' := HDN.out
              have hsi : ∀ x ∈ ss ++ fs1, sctr x < (doneW (doneW W')).first ∧ (-9223372036854775808 ≤ x ∧ x < 9223372036854775808) := fun x hx => by
                rw [h9]
                rcases List.mem_append.1 hx with hx | hx
                · have := HSI.out x hx; have := HFN.out; omega
                · have := HFI.out x hx; omega
              clear h9 HSI HFI
              have HSI := Aside0.mk hsi; clear hsi
              go_upto_region 18 with ((with_reducible refine gate_builtin (b := .append) (xs := #[.tmp 94, .tmp 95]) rfl ?_); at_builtin; (refine Kd.N_append_rows (Kd.int .i64) (w0 := w) w.heap.size rfl (.tmp 94) (.tmp 95) 54 3 (.int .i64 0) 8 rfl Try.underlying54 info_int rfl (by decide) (by decide) (.slice As ss.length cps) ss fs1 Af1 _ _ _ _ rfl rfl (HS.out.wide (y := 5)) (Kd.N_F HF.out) (HS.out.apart (by decide)) (ok_new2 _ _ _ _ _) G.out.bel G.out.bel.size HLM.out ?_; intro v1 w5 hv hb5 hg hat; have hf := fr_grown hg 6 HS.out.own; have hs1 := nl_int hv (own_hat HS.out.at_ hat); clear HF; have G_n := Aside0.mk (G.out.step hf (by decide)); have HD_n := Aside0.mk (dk_keep HD.out hf (by decide)); have HL_n := Aside0.mk (HL.out.keep hf (by decide)); clear G HD HL; have G := G_n; have HD := HD_n; have HL := HL_n; clear G_n HD_n HL_n; clear HS; have HS := Aside0.mk hs1; clear hv hb5 hg hat hf hs1))
              have hln : (ss ++ fs1).length ≤ r + 1 := by rw [List.length_append]; exact HLN.out
              clear HLN
              have HLN := Aside0.mk hln; clear hln
              generalize ss ++ fs1 = ss1 at *
              generalize doneW (doneW W') = W9 at *
              obtain ⟨As1, cps1, hs1⟩ := HS.out.slice
              subst hs1
              go_upto_region 19 with (fail)
              go_loopw [99] (fun v wq => ∃ (j : Nat) (c' : Nat → Nat) (d' : DS), v = .int .i64 j ∧ Aside0 (j ≤ ss1.length) ∧ Aside0 (Gr w wq c') ∧ Aside0 (LO wq c' gl m g W9) ∧ Aside0 (DK wq (Col c' 1) g d') ∧ Aside0 (∃ R e, Qs 64 1 W9 R d' e) ∧ Aside0 (NL (Kd.int .i64) 3 w.heap.size wq c' 6 (.slice As1 ss1.length cps1) ss1)) (fun v _ => ss1.length - (intOf v).toNat)
              case atStart => exact ⟨0, _, _, rfl, ⟨Nat.zero_le _⟩, G, HL, HD, ⟨⟨_, _, HQ.out⟩⟩, HS⟩
              case round =>
                clear G HL HD HQ HS
                obtain ⟨j, c', d', rfl, HJ, G, HL, HD, HQ, HS⟩ := hrel
                by_cases hj : j < ss1.length
                · have hj1 : (j : Int) < (ss1.length : Int) := by omega
                  have hj0 : (0 : Int) ≤ (j : Int) := by omega
                  have hwj : wrap64 ((j : Int) + 1) = ((j + 1 : Nat) : Int) := by have := HLN.out; have := HN1.out; have := HLT.out; unfold wrap64; omega
                  have HJT := Aside0.mk hj
                  have HX := Aside0.mk (HSI.out _ (mem_getD hj))
                  have HXV := Aside0.mk (show safeW W9 (ss1.getD j 0) = true from decide_eq_true HX.out.1)
                  obtain ⟨aj, hAj, hcj⟩ := at_int (HS.out.reads).2.2 j hj
                  subst hAj
                  clear hj
                  generalize (ss1.getD j 0) = xv at *
                  go_wp2_with (go_at_call 24; (with_reducible refine (safe_calls HL.out xv HX.out.2).mono ?_); rintro e w1 ⟨rfl, hb1⟩; rw [HXV.out]; have G_n := Aside0.mk (G.out.below hb1); have HD_n := Aside0.mk (HD.out.below hb1); have HL_n := Aside0.mk (HL.out.below hb1); have HS_n := Aside0.mk (NL.below HS.out hb1); clear G HD HL HS; have G := G_n; have HD := HD_n; have HL := HL_n; have HS := HS_n; clear G_n HD_n HL_n HS_n; clear hb1)
                  go_roundw
                  case rel => exact ⟨j + 1, _, _, by first | rfl | (rw [hwj]) | go_num, ⟨by have := HJT.out; omega⟩, G, HL, HD, HQ, HS⟩
                  case measure =>
                    have := HJT.out
                    (try rw [hwj])
                    show ss1.length - (intOf (.int .i64 ((j + 1 : Nat) : Int))).toNat < ss1.length - (intOf (.int .i64 (j : Int))).toNat
                    simp only [intOf]; omega
                · obtain rfl : j = ss1.length := by have := HJ.out; omega
                  clear hj HJ
                  go_upto_region 25 with (fail)
                  go_loopw [110] (fun v wq => ∃ (c' : Nat → Nat) (d' : DS), v = .int .i64 0 ∧ Aside0 (Gr w wq c') ∧ Aside0 (LO wq c' gl m g W9) ∧ Aside0 (DK wq (Col c' 1) g d') ∧ Aside0 (∃ R e, Qs 64 1 W9 R d' e) ∧ Aside0 (NL (Kd.int .i64) 3 w.heap.size wq c' 6 (.slice As1 ss1.length cps1) ss1)) (fun _ _ => 0)
                  case atStart => exact ⟨_, _, rfl, G, HL, HD, HQ, HS⟩
                  case round =>
                    clear G HL HD HQ HS
                    obtain ⟨c', d', rfl, G, HL, HD, HQ, HS⟩ := hrel
                    · skip
                      obtain ⟨R9, e9, hq⟩ := HQ.out
                      go_wp2
                      go_roundw
                      case rel => exact ⟨r + 1, _, _, _, _, _, _, [], by first | rfl | (rw [hwk]) | go_num, ⟨by have := HLT.out; omega⟩, G, HL, HD, ⟨hq⟩, HS, ⟨nl_nil _ _ _ _ _ _⟩, ⟨by have := HLN.out; simp only [List.length_nil]; omega⟩, HSI, ⟨fun x h => by cases h⟩⟩
                      case measure =>
                        have := HLT.out
                        (try rw [hwk])
                        show l.length - (intOf (.int .i64 ((r + 1 : Nat) : Int))).toNat < l.length - (intOf (.int .i64 (r : Int))).toNat
                        simp only [intOf]; omega
            | false =>
              rw [hb] at hcf
              go_upto_region 18 with (fail)
              clear f1 f2 f3 hcf hb
              go_upto_region 19 with (fail)
              go_loopw [99] (fun v wq => ∃ (j : Nat) (c' : Nat → Nat) (d' : DS), v = .int .i64 j ∧ Aside0 (j ≤ ss.length) ∧ Aside0 (Gr w wq c') ∧ Aside0 (LO wq c' gl m g W') ∧ Aside0 (DK wq (Col c' 1) g d') ∧ Aside0 (∃ R e, Qs 64 1 W' R d' e) ∧ Aside0 (NL (Kd.int .i64) 3 w.heap.size wq c' 6 (.slice As ss.length cps) ss) ∧ Aside0 (NL (Kd.int .i64) 3 w.heap.size wq c' 5 (.slice Af1 fs1.length cpf1) fs1)) (fun v _ => ss.length - (intOf v).toNat)
              case atStart => exact ⟨0, _, _, rfl, ⟨Nat.zero_le _⟩, G, HL, HD, ⟨⟨_, _, HQ.out⟩⟩, HS, HF⟩
              case round =>
                clear G HL HD HQ HS HF
                obtain ⟨j, c', d', rfl, HJ, G, HL, HD, HQ, HS, HF⟩ := hrel
                by_cases hj : j < ss.length
                · have hj1 : (j : Int) < (ss.length : Int) := by omega
                  have hj0 : (0 : Int) ≤ (j : Int) := by omega
                  have hwj : wrap64 ((j : Int) + 1) = ((j + 1 : Nat) : Int) := by have := HLN.out; have := HN1.out; have := HLT.out; unfold wrap64; omega
                  have HJT := Aside0.mk hj
                  have HX := Aside0.mk (HSI.out _ (mem_getD hj))
                  have HXV := Aside0.mk (show safeW W' (ss.getD j 0) = true from decide_eq_true HX.out.1)
                  obtain ⟨aj, hAj, hcj⟩ := at_int (HS.out.reads).2.2 j hj
                  subst hAj
                  clear hj
                  generalize (ss.getD j 0) = xv at *
                  go_wp2_with (go_at_call 24; (with_reducible refine (safe_calls HL.out xv HX.out.2).mono ?_); rintro e w1 ⟨rfl, hb1⟩; rw [HXV.out]; have G_n := Aside0.mk (G.out.below hb1); have HD_n := Aside0.mk (HD.out.below hb1); have HL_n := Aside0.mk (HL.out.below hb1); have HS_n := Aside0.mk (NL.below HS.out hb1); have HF_n := Aside0.mk (NL.below HF.out hb1); clear G HD HL HS HF; have G := G_n; have HD := HD_n; have HL := HL_n; have HS := HS_n; have HF := HF_n; clear G_n HD_n HL_n HS_n HF_n; clear hb1)
                  go_roundw
                  case rel => exact ⟨j + 1, _, _, by first | rfl | (rw [hwj]) | go_num, ⟨by have := HJT.out; omega⟩, G, HL, HD, HQ, HS, HF⟩
                  case measure =>
                    have := HJT.out
                    (try rw [hwj])
                    show ss.length - (intOf (.int .i64 ((j + 1 : Nat) : Int))).toNat < ss.length - (intOf (.int .i64 (j : Int))).toNat
                    simp only [intOf]; omega
                · obtain rfl : j = ss.length := by have := HJ.out; omega
                  clear hj HJ
                  go_upto_region 25 with (fail)
                  go_loopw [110] (fun v wq => ∃ (j : Nat) (c' : Nat → Nat) (d' : DS), v = .int .i64 j ∧ Aside0 (j ≤ fs1.length) ∧ Aside0 (Gr w wq c') ∧ Aside0 (LO wq c' gl m g W') ∧ Aside0 (DK wq (Col c' 1) g d') ∧ Aside0 (∃ R e, Qs 64 1 W' R d' e) ∧ Aside0 (NL (Kd.int .i64) 3 w.heap.size wq c' 6 (.slice As ss.length cps) ss) ∧ Aside0 (NL (Kd.int .i64) 3 w.heap.size wq c' 5 (.slice Af1 fs1.length cpf1) fs1)) (fun v _ => fs1.length - (intOf v).toNat)
                  case atStart => exact ⟨0, _, _, rfl, ⟨Nat.zero_le _⟩, G, HL, HD, HQ, HS, HF⟩
                  case round =>
                    clear G HL HD HQ HS HF
                    obtain ⟨j, c', d', rfl, HJ, G, HL, HD, HQ, HS, HF⟩ := hrel
                    by_cases hj : j < fs1.length
                    · have hj1 : (j : Int) < (fs1.length : Int) := by omega
                      have hj0 : (0 : Int) ≤ (j : Int) := by omega
                      have hwj : wrap64 ((j : Int) + 1) = ((j + 1 : Nat) : Int) := by have := HLN.out; have := HN1.out; have := HLT.out; unfold wrap64; omega
                      have HJT := Aside0.mk hj
                      have HX := Aside0.mk (HFI.out _ (mem_getD hj))
                      have HXV := Aside0.mk (show safeW W' (fs1.getD j 0) = false from decide_eq_false (by have := HX.out.1.1; omega))
                      obtain ⟨aj, hAj, hcj⟩ := at_int (HF.out.reads).2.2 j hj
                      subst hAj
                      clear hj
                      generalize (fs1.getD j 0) = xv at *
                      go_wp2_with (go_at_call 24; (with_reducible refine (safe_calls HL.out xv HX.out.2).mono ?_); rintro e w1 ⟨rfl, hb1⟩; rw [HXV.out]; have G_n := Aside0.mk (G.out.below hb1); have HD_n := Aside0.mk (HD.out.below hb1); have HL_n := Aside0.mk (HL.out.below hb1); have HS_n := Aside0.mk (NL.below HS.out hb1); have HF_n := Aside0.mk (NL.below HF.out hb1); clear G HD HL HS HF; have G := G_n; have HD := HD_n; have HL := HL_n; have HS := HS_n; have HF := HF_n; clear G_n HD_n HL_n HS_n HF_n; clear hb1)
                      go_roundw
                      case rel => exact ⟨j + 1, _, _, by first | rfl | (rw [hwj]) | go_num, ⟨by have := HJT.out; omega⟩, G, HL, HD, HQ, HS, HF⟩
                      case measure =>
                        have := HJT.out
                        (try rw [hwj])
                        show fs1.length - (intOf (.int .i64 ((j + 1 : Nat) : Int))).toNat < fs1.length - (intOf (.int .i64 (j : Int))).toNat
                        simp only [intOf]; omega
                    · obtain rfl : j = fs1.length := by have := HJ.out; omega
                      clear hj HJ
                      obtain ⟨R9, e9, hq⟩ := HQ.out
                      go_wp2
                      go_roundw
                      case rel => exact ⟨r + 1, _, _, _, _, _, _, _, by first | rfl | (rw [hwk]) | go_num, ⟨by have := HLT.out; omega⟩, G, HL, HD, ⟨hq⟩, HS, HF, HLN, HSI, HFI⟩
                      case measure =>
                        have := HLT.out
                        (try rw [hwk])
                        show l.length - (intOf (.int .i64 ((r + 1 : Nat) : Int))).toNat < l.length - (intOf (.int .i64 (r : Int))).toNat
                        simp only [intOf]; omega
          · have f1 : decide ((r : Int) < (fl.length : Int)) = false := decide_eq_false (by omega)
            have f2 : ((r : Int) < (fl.length : Int)) = False := eq_false (by omega)
            go_upto_region 18 with (fail)
            clear f1 f2
            go_upto_region 19 with (fail)
            go_loopw [99] (fun v wq => ∃ (j : Nat) (c' : Nat → Nat) (d' : DS), v = .int .i64 j ∧ Aside0 (j ≤ ss.length) ∧ Aside0 (Gr w wq c') ∧ Aside0 (LO wq c' gl m g W') ∧ Aside0 (DK wq (Col c' 1) g d') ∧ Aside0 (∃ R e, Qs 64 1 W' R d' e) ∧ Aside0 (NL (Kd.int .i64) 3 w.heap.size wq c' 6 (.slice As ss.length cps) ss) ∧ Aside0 (NL (Kd.int .i64) 3 w.heap.size wq c' 5 (.slice Af1 fs1.length cpf1) fs1)) (fun v _ => ss.length - (intOf v).toNat)
            case atStart => exact ⟨0, _, _, rfl, ⟨Nat.zero_le _⟩, G, HL, HD, ⟨⟨_, _, HQ.out⟩⟩, HS, HF⟩
            case round =>
              clear G HL HD HQ HS HF
              obtain ⟨j, c', d', rfl, HJ, G, HL, HD, HQ, HS, HF⟩ := hrel
              by_cases hj : j < ss.length
              · have hj1 : (j : Int) < (ss.length : Int) := by omega
                have hj0 : (0 : Int) ≤ (j : Int) := by omega
                have hwj : wrap64 ((j : Int) + 1) = ((j + 1 : Nat) : Int) := by have := HLN.out; have := HN1.out; have := HLT.out; unfold wrap64; omega
                have HJT := Aside0.mk hj
                have HX := Aside0.mk (HSI.out _ (mem_getD hj))
                have HXV := Aside0.mk (show safeW W' (ss.getD j 0) = true from decide_eq_true HX.out.1)
                obtain ⟨aj, hAj, hcj⟩ := at_int (HS.out.reads).2.2 j hj
                subst hAj
                clear hj
                generalize (ss.getD j 0) = xv at *
                go_wp2_with (go_at_call 24; (with_reducible refine (safe_calls HL.out xv HX.out.2).mono ?_); rintro e w1 ⟨rfl, hb1⟩; rw [HXV.out]; have G_n := Aside0.mk (G.out.below hb1); have HD_n := Aside0.mk (HD.out.below hb1); have HL_n := Aside0.mk (HL.out.below hb1); have HS_n := Aside0.mk (NL.below HS.out hb1); have HF_n := Aside0.mk (NL.below HF.out hb1); clear G HD HL HS HF; have G := G_n; have HD := HD_n; have HL := HL_n; have HS := HS_n; have HF := HF_n; clear G_n HD_n HL_n HS_n HF_n; clear hb1)
                go_roundw
                case rel => exact ⟨j + 1, _, _, by first | rfl | (rw [hwj]) | go_num, ⟨by have := HJT.out; omega⟩, G, HL, HD, HQ, HS, HF⟩
                case measure =>
                  have := HJT.out
                  (try rw [hwj])
                  show ss.length - (intOf (.int .i64 ((j + 1 : Nat) : Int))).toNat < ss.length - (intOf (.int .i64 (j : Int))).toNat
                  simp only [intOf]; omega
              · obtain rfl : j = ss.length := by have := HJ.out; omega
                clear hj HJ
                go_upto_region 25 with (fail)
                go_loopw [110] (fun v wq => ∃ (j : Nat) (c' : Nat → Nat) (d' : DS), v = .int .i64 j ∧ Aside0 (j ≤ fs1.length) ∧ Aside0 (Gr w wq c') ∧ Aside0 (LO wq c' gl m g W') ∧ Aside0 (DK wq (Col c' 1) g d') ∧ Aside0 (∃ R e, Qs 64 1 W' R d' e) ∧ Aside0 (NL (Kd.int .i64) 3 w.heap.size wq c' 6 (.slice As ss.length cps) ss) ∧ Aside0 (NL (Kd.int .i64) 3 w.heap.size wq c' 5 (.slice Af1 fs1.length cpf1) fs1)) (fun v _ => fs1.length - (intOf v).toNat)
                case atStart => exact ⟨0, _, _, rfl, ⟨Nat.zero_le _⟩, G, HL, HD, HQ, HS, HF⟩
                case round =>
                  clear G HL HD HQ HS HF
                  obtain ⟨j, c', d', rfl, HJ, G, HL, HD, HQ, HS, HF⟩ := hrel
                  by_cases hj : j < fs1.length
                  · have hj1 : (j : Int) < (fs1.length : Int) := by omega
                    have hj0 : (0 : Int) ≤ (j : Int) := by omega
                    have hwj : wrap64 ((j : Int) + 1) = ((j + 1 : Nat) : Int) := by have := HLN.out; have := HN1.out; have := HLT.out; unfold wrap64; omega
                    have HJT := Aside0.mk hj
                    have HX := Aside0.mk (HFI.out _ (mem_getD hj))
                    have HXV := Aside0.mk (show safeW W' (fs1.getD j 0) = false from decide_eq_false (by have := HX.out.1.1; omega))
                    obtain ⟨aj, hAj, hcj⟩ := at_int (HF.out.reads).2.2 j hj
                    subst hAj
                    clear hj
                    generalize (fs1.getD j 0) = xv at *
                    go_wp2_with (go_at_call 24; (with_reducible refine (safe_calls HL.out xv HX.out.2).mono ?_); rintro e w1 ⟨rfl, hb1⟩; rw [HXV.out]; have G_n := Aside0.mk (G.out.below hb1); have HD_n := Aside0.mk (HD.out.below hb1); have HL_n := Aside0.mk (HL.out.below hb1); have HS_n := Aside0.mk (NL.below HS.out hb1); have HF_n := Aside0.mk (NL.below HF.out hb1); clear G HD HL HS HF; have G := G_n; have HD := HD_n; have HL := HL_n; have HS := HS_n; have HF := HF_n; clear G_n HD_n HL_n HS_n HF_n; clear hb1)
                    go_roundw
                    case rel => exact ⟨j + 1, _, _, by first | rfl | (rw [hwj]) | go_num, ⟨by have := HJT.out; omega⟩, G, HL, HD, HQ, HS, HF⟩
                    case measure =>
                      have := HJT.out
                      (try rw [hwj])
                      show fs1.length - (intOf (.int .i64 ((j + 1 : Nat) : Int))).toNat < fs1.length - (intOf (.int .i64 (j : Int))).toNat
                      simp only [intOf]; omega
                  · obtain rfl : j = fs1.length := by have := HJ.out; omega
                    clear hj HJ
                    obtain ⟨R9, e9, hq⟩ := HQ.out
                    go_wp2
                    go_roundw
                    case rel => exact ⟨r + 1, _, _, _, _, _, _, _, by first | rfl | (rw [hwk]) | go_num, ⟨by have := HLT.out; omega⟩, G, HL, HD, ⟨hq⟩, HS, HF, HLN, HSI, HFI⟩
                    case measure =>
                      have := HLT.out
                      (try rw [hwk])
                      show l.length - (intOf (.int .i64 ((r + 1 : Nat) : Int))).toNat < l.length - (intOf (.int .i64 (r : Int))).toNat
                      simp only [intOf]; omega
        · have her1 : (er == (0 : Int)) = false := beq_eq_false_iff_ne.2 her
          clear HFI
          have HFI := Aside0.mk hfi; clear hfi
          have hln : ss.length + fs.length ≤ r + 1 := by have := HLN.out; omega
          clear HLN
          have HLN := Aside0.mk hln; clear hln
          go_upto_region 14 with (fail)
          clear her her1
          have HDN := Aside0.mk (show (doneW (doneW W')).first = nxW W' from HQ.out.done.2.1); have HFN := Aside0.mk HQ.out.done.2.2.2.2
          by_cases hfl : r < fl.length
          · have f1 : decide ((r : Int) < (fl.length : Int)) = true := decide_eq_true (by omega)
            have f2 : ((r : Int) < (fl.length : Int)) = True := eq_true (by omega)
            obtain ⟨fd, hA2, hcf⟩ := at_bool HR2.out r hfl
            subst hA2
            replace hcf := pw_cell_below G.out.bel hcf
            have f3 : (0 : Int) ≤ (r : Int) := by omega
            cases hb : fl.getD r false with
            | true =>
              rw [hb] at hcf
              go_upto_region 15 with (fail)
              clear f1 f2 f3 hcf hb
              go_upto_region 17 with (first | (go_at_call 16; (with_reducible refine (flush_calls HL.out HD.out HQ.out.ok (by decide) (HQ.out.fit HE.out) HQ.out.bd HQ.out.gap.1 HQ.out.gap.2).mono ?_); rintro e w1 ⟨rfl, c1, hf, hl, hd, ho⟩; obtain ⟨f1, f2, f3, f4⟩ := HQ.out.flush HE.out; rw [f1]; rw [f2] at hl; have G_n := Aside0.mk (G.out.step hf (by decide)); have HS_n := Aside0.mk (NL.keep HS.out G.out hf (by decide) (by decide)); have HF_n := Aside0.mk (NL.keep HF.out G.out hf (by decide) (by decide)); clear G HS HF; have G := G_n; have HS := HS_n; have HF := HF_n; clear G_n HS_n HF_n; clear HD HL HQ; have HD := Aside0.mk hd; have HL := Aside0.mk hl; have HQ := Aside0.mk f3; clear hl hd hf ho f1 f2 f3 f4) | (go_at_call 23; (with_reducible refine (waiting_calls _ _ _ _ HD.out).mono ?_); rintro e w1 ⟨rfl, hb1⟩; rw [HQ.out.wait]; have G_n := Aside0.mk (G.out.below hb1); have HD_n := Aside0.mk (HD.out.below hb1); have HL_n := Aside0.mk (HL.out.below hb1); have HS_n := Aside0.mk (NL.below HS.out hb1); have HF_n := Aside0.mk (NL.below HF.out hb1); clear G HD HL HS HF; have G := G_n; have HD := HD_n; have HL := HL_n; have HS := HS_n; have HF := HF_n; clear G_n HD_n HL_n HS_n HF_n; clear hb1))
              have HLM := Aside0.mk (show (ss.length + fs.length) * 8 ≤ 140737488355328 by have := HLN.out; have := HN1.out; have := HLT.out; omega)
              have h9 : (doneW (doneW W')).first = nxW W' := HDN.out
              have hsi : ∀ x ∈ ss ++ fs, sctr x < (doneW (doneW W')).first ∧ (-9223372036854775808 ≤ x ∧ x < 9223372036854775808) := fun x hx => by
                rw [h9]
                rcases List.mem_append.1 hx with hx | hx
                · have := HSI.out x hx; have := HFN.out; omega
                · have := HFI.out x hx; omega
              clear h9 HSI HFI
              have HSI := Aside0.mk hsi; clear hsi
              go_upto_region 18 with ((with_reducible refine gate_builtin (b := .append) (xs := #[.tmp 94, .tmp 95]) rfl ?_); at_builtin; (refine Kd.N_append_rows (Kd.int .i64) (w0 := w) w.heap.size rfl (.tmp 94) (.tmp 95) 54 3 (.int .i64 0) 8 rfl Try.underlying54 info_int rfl (by decide) (by decide) (.slice As ss.length cps) ss fs Af _ _ _ _ rfl rfl (HS.out.wide (y := 5)) (Kd.N_F HF.out) (HS.out.apart (by decide)) (ok_new2 _ _ _ _ _) G.out.bel G.out.bel.size HLM.out ?_; intro v1 w5 hv hb5 hg hat; have hf := fr_grown hg 6 HS.out.own; have hs1 := nl_int hv (own_hat HS.out.at_ hat); clear HF; have G_n := Aside0.mk (G.out.step hf (by decide)); have HD_n := Aside0.mk (dk_keep HD.out hf (by decide)); have HL_n := Aside0.mk (HL.out.keep hf (by decide)); clear G HD HL; have G := G_n; have HD := HD_n; have HL := HL_n; clear G_n HD_n HL_n; clear HS; have HS := Aside0.mk hs1; clear hv hb5 hg hat hf hs1))
              have hln : (ss ++ fs).length ≤ r + 1 := by rw [List.length_append]; exact HLN.out
              clear HLN
              have HLN := Aside0.mk hln; clear hln
              generalize ss ++ fs = ss1 at *
              generalize doneW (doneW W') = W9 at *
              obtain ⟨As1, cps1, hs1⟩ := HS.out.slice
              subst hs1
              go_upto_region 19 with (fail)
              go_loopw [99] (fun v wq => ∃ (j : Nat) (c' : Nat → Nat) (d' : DS), v = .int .i64 j ∧ Aside0 (j ≤ ss1.length) ∧ Aside0 (Gr w wq c') ∧ Aside0 (LO wq c' gl m g W9) ∧ Aside0 (DK wq (Col c' 1) g d') ∧ Aside0 (∃ R e, Qs 64 1 W9 R d' e) ∧ Aside0 (NL (Kd.int .i64) 3 w.heap.size wq c' 6 (.slice As1 ss1.length cps1) ss1)) (fun v _ => ss1.length - (intOf v).toNat)
              case atStart => exact ⟨0, _, _, rfl, ⟨Nat.zero_le _⟩, G, HL, HD, ⟨⟨_, _, HQ.out⟩⟩, HS⟩
              case round =>
                clear G HL HD HQ HS
                obtain ⟨j, c', d', rfl, HJ, G, HL, HD, HQ, HS⟩ := hrel
                by_cases hj : j < ss1.length
                · have hj1 : (j : Int) < (ss1.length : Int) := by omega
                  have hj0 : (0 : Int) ≤ (j : Int) := by omega
                  have hwj : wrap64 ((j : Int) + 1) = ((j + 1 : Nat) : Int) := by have := HLN.out; have := HN1.out; have := HLT.out; unfold wrap64; omega
                  have HJT := Aside0.mk hj
                  have HX := Aside0.mk (HSI.out _ (mem_getD hj))
                  have HXV := Aside0.mk (show safeW W9 (ss1.getD j 0) = true from decide_eq_true HX.out.1)
                  obtain ⟨aj, hAj, hcj⟩ := at_int (HS.out.reads).2.2 j hj
                  subst hAj
                  clear hj
                  generalize (ss1.getD j 0) = xv at *
                  go_wp2_with (go_at_call 24; (with_reducible refine (safe_calls HL.out xv HX.out.2).mono ?_); rintro e w1 ⟨rfl, hb1⟩; rw [HXV.out]; have G_n := Aside0.mk (G.out.below hb1); have HD_n := Aside0.mk (HD.out.below hb1); have HL_n := Aside0.mk (HL.out.below hb1); have HS_n := Aside0.mk (NL.below HS.out hb1); clear G HD HL HS; have G := G_n; have HD := HD_n; have HL := HL_n; have HS := HS_n; clear G_n HD_n HL_n HS_n; clear hb1)
                  go_roundw
                  case rel => exact ⟨j + 1, _, _, by first | rfl | (rw [hwj]) | go_num, ⟨by have := HJT.out; omega⟩, G, HL, HD, HQ, HS⟩
                  case measure =>
                    have := HJT.out
                    (try rw [hwj])
                    show ss1.length - (intOf (.int .i64 ((j + 1 : Nat) : Int))).toNat < ss1.length - (intOf (.int .i64 (j : Int))).toNat
                    simp only [intOf]; omega
                · obtain rfl : j = ss1.length := by have := HJ.out; omega
                  clear hj HJ
                  go_upto_region 25 with (fail)
                  go_loopw [110] (fun v wq => ∃ (c' : Nat → Nat) (d' : DS), v = .int .i64 0 ∧ Aside0 (Gr w wq c') ∧ Aside0 (LO wq c' gl m g W9) ∧ Aside0 (DK wq (Col c' 1) g d') ∧ Aside0 (∃ R e, Qs 64 1 W9 R d' e) ∧ Aside0 (NL (Kd.int .i64) 3 w.heap.size wq c' 6 (.slice As1 ss1.length cps1) ss1)) (fun _ _ => 0)
                  case atStart => exact ⟨_, _, rfl, G, HL, HD, HQ, HS⟩
                  case round =>
                    clear G HL HD HQ HS
                    obtain ⟨c', d', rfl, G, HL, HD, HQ, HS⟩ := hrel
                    · skip
                      obtain ⟨R9, e9, hq⟩ := HQ.out
                      go_wp2
                      go_roundw
                      case rel => exact ⟨r + 1, _, _, _, _, _, _, [], by first | rfl | (rw [hwk]) | go_num, ⟨by have := HLT.out; omega⟩, G, HL, HD, ⟨hq⟩, HS, ⟨nl_nil _ _ _ _ _ _⟩, ⟨by have := HLN.out; simp only [List.length_nil]; omega⟩, HSI, ⟨fun x h => by cases h⟩⟩
                      case measure =>
                        have := HLT.out
                        (try rw [hwk])
                        show l.length - (intOf (.int .i64 ((r + 1 : Nat) : Int))).toNat < l.length - (intOf (.int .i64 (r : Int))).toNat
                        simp only [intOf]; omega
            | false =>
              rw [hb] at hcf
              go_upto_region 18 with (fail)
              clear f1 f2 f3 hcf hb
              go_upto_region 19 with (fail)
              go_loopw [99] (fun v wq => ∃ (j : Nat) (c' : Nat → Nat) (d' : DS), v = .int .i64 j ∧ Aside0 (j ≤ ss.length) ∧ Aside0 (Gr w wq c') ∧ Aside0 (LO wq c' gl m g W') ∧ Aside0 (DK wq (Col c' 1) g d') ∧ Aside0 (∃ R e, Qs 64 1 W' R d' e) ∧ Aside0 (NL (Kd.int .i64) 3 w.heap.size wq c' 6 (.slice As ss.length cps) ss) ∧ Aside0 (NL (Kd.int .i64) 3 w.heap.size wq c' 5 (.slice Af fs.length cpf) fs)) (fun v _ => ss.length - (intOf v).toNat)
              case atStart => exact ⟨0, _, _, rfl, ⟨Nat.zero_le _⟩, G, HL, HD, ⟨⟨_, _, HQ.out⟩⟩, HS, HF⟩
              case round =>
                clear G HL HD HQ HS HF
                obtain ⟨j, c', d', rfl, HJ, G, HL, HD, HQ, HS, HF⟩ := hrel
                by_cases hj : j < ss.length
                · have hj1 : (j : Int) < (ss.length : Int) := by omega
                  have hj0 : (0 : Int) ≤ (j : Int) := by omega
                  have hwj : wrap64 ((j : Int) + 1) = ((j + 1 : Nat) : Int) := by have := HLN.out; have := HN1.out; have := HLT.out; unfold wrap64; omega
                  have HJT := Aside0.mk hj
                  have HX := Aside0.mk (HSI.out _ (mem_getD hj))
                  have HXV := Aside0.mk (show safeW W' (ss.getD j 0) = true from decide_eq_true HX.out.1)
                  obtain ⟨aj, hAj, hcj⟩ := at_int (HS.out.reads).2.2 j hj
                  subst hAj
                  clear hj
                  generalize (ss.getD j 0) = xv at *
                  go_wp2_with (go_at_call 24; (with_reducible refine (safe_calls HL.out xv HX.out.2).mono ?_); rintro e w1 ⟨rfl, hb1⟩; rw [HXV.out]; have G_n := Aside0.mk (G.out.below hb1); have HD_n := Aside0.mk (HD.out.below hb1); have HL_n := Aside0.mk (HL.out.below hb1); have HS_n := Aside0.mk (NL.below HS.out hb1); have HF_n := Aside0.mk (NL.below HF.out hb1); clear G HD HL HS HF; have G := G_n; have HD := HD_n; have HL := HL_n; have HS := HS_n; have HF := HF_n; clear G_n HD_n HL_n HS_n HF_n; clear hb1)
                  go_roundw
                  case rel => exact ⟨j + 1, _, _, by first | rfl | (rw [hwj]) | go_num, ⟨by have := HJT.out; omega⟩, G, HL, HD, HQ, HS, HF⟩
                  case measure =>
                    have := HJT.out
                    (try rw [hwj])
                    show ss.length - (intOf (.int .i64 ((j + 1 : Nat) : Int))).toNat < ss.length - (intOf (.int .i64 (j : Int))).toNat
                    simp only [intOf]; omega
                · obtain rfl : j = ss.length := by have := HJ.out; omega
                  clear hj HJ
                  go_upto_region 25 with (fail)
                  go_loopw [110] (fun v wq => ∃ (j : Nat) (c' : Nat → Nat) (d' : DS), v = .int .i64 j ∧ Aside0 (j ≤ fs.length) ∧ Aside0 (Gr w wq c') ∧ Aside0 (LO wq c' gl m g W') ∧ Aside0 (DK wq (Col c' 1) g d') ∧ Aside0 (∃ R e, Qs 64 1 W' R d' e) ∧ Aside0 (NL (Kd.int .i64) 3 w.heap.size wq c' 6 (.slice As ss.length cps) ss) ∧ Aside0 (NL (Kd.int .i64) 3 w.heap.size wq c' 5 (.slice Af fs.length cpf) fs)) (fun v _ => fs.length - (intOf v).toNat)
                  case atStart => exact ⟨0, _, _, rfl, ⟨Nat.zero_le _⟩, G, HL, HD, HQ, HS, HF⟩
                  case round =>
                    clear G HL HD HQ HS HF
                    obtain ⟨j, c', d', rfl, HJ, G, HL, HD, HQ, HS, HF⟩ := hrel
                    by_cases hj : j < fs.length
                    · have hj1 : (j : Int) < (fs.length : Int) := by omega
                      have hj0 : (0 : Int) ≤ (j : Int) := by omega
                      have hwj : wrap64 ((j : Int) + 1) = ((j + 1 : Nat) : Int) := by have := HLN.out; have := HN1.out; have := HLT.out; unfold wrap64; omega
                      have HJT := Aside0.mk hj
                      have HX := Aside0.mk (HFI.out _ (mem_getD hj))
                      have HXV := Aside0.mk (show safeW W' (fs.getD j 0) = false from decide_eq_false (by have := HX.out.1.1; omega))
                      obtain ⟨aj, hAj, hcj⟩ := at_int (HF.out.reads).2.2 j hj
                      subst hAj
                      clear hj
                      generalize (fs.getD j 0) = xv at *
                      go_wp2_with (go_at_call 24; (with_reducible refine (safe_calls HL.out xv HX.out.2).mono ?_); rintro e w1 ⟨rfl, hb1⟩; rw [HXV.out]; have G_n := Aside0.mk (G.out.below hb1); have HD_n := Aside0.mk (HD.out.below hb1); have HL_n := Aside0.mk (HL.out.below hb1); have HS_n := Aside0.mk (NL.below HS.out hb1); have HF_n := Aside0.mk (NL.below HF.out hb1); clear G HD HL HS HF; have G := G_n; have HD := HD_n; have HL := HL_n; have HS := HS_n; have HF := HF_n; clear G_n HD_n HL_n HS_n HF_n; clear hb1)
                      go_roundw
                      case rel => exact ⟨j + 1, _, _, by first | rfl | (rw [hwj]) | go_num, ⟨by have := HJT.out; omega⟩, G, HL, HD, HQ, HS, HF⟩
                      case measure =>
                        have := HJT.out
                        (try rw [hwj])
                        show fs.length - (intOf (.int .i64 ((j + 1 : Nat) : Int))).toNat < fs.length - (intOf (.int .i64 (j : Int))).toNat
                        simp only [intOf]; omega
                    · obtain rfl : j = fs.length := by have := HJ.out; omega
                      clear hj HJ
                      obtain ⟨R9, e9, hq⟩ := HQ.out
                      go_wp2
                      go_roundw
                      case rel => exact ⟨r + 1, _, _, _, _, _, _, _, by first | rfl | (rw [hwk]) | go_num, ⟨by have := HLT.out; omega⟩, G, HL, HD, ⟨hq⟩, HS, HF, HLN, HSI, HFI⟩
                      case measure =>
                        have := HLT.out
                        (try rw [hwk])
                        show l.length - (intOf (.int .i64 ((r + 1 : Nat) : Int))).toNat < l.length - (intOf (.int .i64 (r : Int))).toNat
                        simp only [intOf]; omega
          · have f1 : decide ((r : Int) < (fl.length : Int)) = false := decide_eq_false (by omega)
            have f2 : ((r : Int) < (fl.length : Int)) = False := eq_false (by omega)
            go_upto_region 18 with (fail)
            clear f1 f2
            go_upto_region 19 with (fail)
            go_loopw [99] (fun v wq => ∃ (j : Nat) (c' : Nat → Nat) (d' : DS), v = .int .i64 j ∧ Aside0 (j ≤ ss.length) ∧ Aside0 (Gr w wq c') ∧ Aside0 (LO wq c' gl m g W') ∧ Aside0 (DK wq (Col c' 1) g d') ∧ Aside0 (∃ R e, Qs 64 1 W' R d' e) ∧ Aside0 (NL (Kd.int .i64) 3 w.heap.size wq c' 6 (.slice As ss.length cps) ss) ∧ Aside0 (NL (Kd.int .i64) 3 w.heap.size wq c' 5 (.slice Af fs.length cpf) fs)) (fun v _ => ss.length - (intOf v).toNat)
            case atStart => exact ⟨0, _, _, rfl, ⟨Nat.zero_le _⟩, G, HL, HD, ⟨⟨_, _, HQ.out⟩⟩, HS, HF⟩
            case round =>
              clear G HL HD HQ HS HF
              obtain ⟨j, c', d', rfl, HJ, G, HL, HD, HQ, HS, HF⟩ := hrel
              by_cases hj : j < ss.length
              · have hj1 : (j : Int) < (ss.length : Int) := by omega
                have hj0 : (0 : Int) ≤ (j : Int) := by omega
                have hwj : wrap64 ((j : Int) + 1) = ((j + 1 : Nat) : Int) := by have := HLN.out; have := HN1.out; have := HLT.out; unfold wrap64; omega
                have HJT := Aside0.mk hj
                have HX := Aside0.mk (HSI.out _ (mem_getD hj))
                have HXV := Aside0.mk (show safeW W' (ss.getD j 0) = true from decide_eq_true HX.out.1)
                obtain ⟨aj, hAj, hcj⟩ := at_int (HS.out.reads).2.2 j hj
                subst hAj
                clear hj
                generalize (ss.getD j 0) = xv at *
                go_wp2_with (go_at_call 24; (with_reducible refine (safe_calls HL.out xv HX.out.2).mono ?_); rintro e w1 ⟨rfl, hb1⟩; rw [HXV.out]; have G_n := Aside0.mk (G.out.below hb1); have HD_n := Aside0.mk (HD.out.below hb1); have HL_n := Aside0.mk (HL.out.below hb1); have HS_n := Aside0.mk (NL.below HS.out hb1); have HF_n := Aside0.mk (NL.below HF.out hb1); clear G HD HL HS HF; have G := G_n; have HD := HD_n; have HL := HL_n; have HS := HS_n; have HF := HF_n; clear G_n HD_n HL_n HS_n HF_n; clear hb1)
                go_roundw
                case rel => exact ⟨j + 1, _, _, by first | rfl | (rw [hwj]) | go_num, ⟨by have := HJT.out; omega⟩, G, HL, HD, HQ, HS, HF⟩
                case measure =>
                  have := HJT.out
                  (try rw [hwj])
                  show ss.length - (intOf (.int .i64 ((j + 1 : Nat) : Int))).toNat < ss.length - (intOf (.int .i64 (j : Int))).toNat
                  simp only [intOf]; omega
              · obtain rfl : j = ss.length := by have := HJ.out; omega
                clear hj HJ
                go_upto_region 25 with (fail)
                go_loopw [110] (fun v wq => ∃ (j : Nat) (c' : Nat → Nat) (d' : DS), v = .int .i64 j ∧ Aside0 (j ≤ fs.length) ∧ Aside0 (Gr w wq c') ∧ Aside0 (LO wq c' gl m g W') ∧ Aside0 (DK wq (Col c' 1) g d') ∧ Aside0 (∃ R e, Qs 64 1 W' R d' e) ∧ Aside0 (NL (Kd.int .i64) 3 w.heap.size wq c' 6 (.slice As ss.length cps) ss) ∧ Aside0 (NL (Kd.int .i64) 3 w.heap.size wq c' 5 (.slice Af fs.length cpf) fs)) (fun v _ => fs.length - (intOf v).toNat)
                case atStart => exact ⟨0, _, _, rfl, ⟨Nat.zero_le _⟩, G, HL, HD, HQ, HS, HF⟩
                case round =>
                  clear G HL HD HQ HS HF
                  obtain ⟨j, c', d', rfl, HJ, G, HL, HD, HQ, HS, HF⟩ := hrel
                  by_cases hj : j < fs.length
                  · have hj1 : (j : Int) < (fs.length : Int) := by omega
                    have hj0 : (0 : Int) ≤ (j : Int) := by omega
                    have hwj : wrap64 ((j : Int) + 1) = ((j + 1 : Nat) : Int) := by have := HLN.out; have := HN1.out; have := HLT.out; unfold wrap64; omega
                    have HJT := Aside0.mk hj
                    have HX := Aside0.mk (HFI.out _ (mem_getD hj))
                    have HXV := Aside0.mk (show safeW W' (fs.getD j 0) = false from decide_eq_false (by have := HX.out.1.1; omega))
                    obtain ⟨aj, hAj, hcj⟩ := at_int (HF.out.reads).2.2 j hj
                    subst hAj
                    clear hj
                    generalize (fs.getD j 0) = xv at *
                    go_wp2_with (go_at_call 24; (with_reducible refine (safe_calls HL.out xv HX.out.2).mono ?_); rintro e w1 ⟨rfl, hb1⟩; rw [HXV.out]; have G_n := Aside0.mk (G.out.below hb1); have HD_n := Aside0.mk (HD.out.below hb1); have HL_n := Aside0.mk (HL.out.below hb1); have HS_n := Aside0.mk (NL.below HS.out hb1); have HF_n := Aside0.mk (NL.below HF.out hb1); clear G HD HL HS HF; have G := G_n; have HD := HD_n; have HL := HL_n; have HS := HS_n; have HF := HF_n; clear G_n HD_n HL_n HS_n HF_n; clear hb1)
                    go_roundw
                    case rel => exact ⟨j + 1, _, _, by first | rfl | (rw [hwj]) | go_num, ⟨by have := HJT.out; omega⟩, G, HL, HD, HQ, HS, HF⟩
                    case measure =>
                      have := HJT.out
                      (try rw [hwj])
                      show fs.length - (intOf (.int .i64 ((j + 1 : Nat) : Int))).toNat < fs.length - (intOf (.int .i64 (j : Int))).toNat
                      simp only [intOf]; omega
                  · obtain rfl : j = fs.length := by have := HJ.out; omega
                    clear hj HJ
                    obtain ⟨R9, e9, hq⟩ := HQ.out
                    go_wp2
                    go_roundw
                    case rel => exact ⟨r + 1, _, _, _, _, _, _, _, by first | rfl | (rw [hwk]) | go_num, ⟨by have := HLT.out; omega⟩, G, HL, HD, ⟨hq⟩, HS, HF, HLN, HSI, HFI⟩
                    case measure =>
                      have := HLT.out
                      (try rw [hwk])
                      show l.length - (intOf (.int .i64 ((r + 1 : Nat) : Int))).toNat < l.length - (intOf (.int .i64 (r : Int))).toNat
                      simp only [intOf]; omega
    · obtain rfl : r = l.length := by have := HRL.out; omega
      clear hlt
      go_wp2
      go_ret
      exact ⟨rfl, G.out.bel⟩
def careenlaw05_WalSafe.f (l0 : List S37) (l1 : List Bool) : Option Bool := some true
theorem careenlaw05_WalSafe.calls (A0 : Option Addr) (c0 : Nat) (l0 : List S37) (A1 : Option Addr) (c1 : Nat) (l1 : List Bool) (r : Bool) (w : World) (hr0 : Kd.C k37 w A0 l0.length l0) (hc0 : l0.length ≤ c0) (hr1 : Kd.C Kd.bool w A1 l1.length l1) (hc1 : l1.length ≤ c1) (h : careenlaw05_WalSafe.f l0 l1 = some r) :
    Calls Try.prog 4 #[.slice A0 l0.length c0, .slice A1 l1.length c1] w fun e w' => e = .returned (.bool r) ∧ Below w.heap.size w w' := by
  obtain rfl := Option.some.inj h
  exact safe_walk A0 c0 l0 A1 c1 l1 w hr0 hc0 hr1 hc1
end Go.Proofs.Ytbnglmeljbiglaa.X4
