import Derived.Test.YtbnglmeljbiglaaQGZ0
import Derived.Test.YtbnglmeljbiglaaQGZ1
import Derived.Test.YtbnglmeljbiglaaQGZ2
import Derived.Test.YtbnglmeljbiglaaQGZ3
import Derived.Test.YtbnglmeljbiglaaQGZ4
import Derived.Test.YtbnglmeljbiglaaQGZ5
import Derived.Test.YtbnglmeljbiglaaQGZ6
import Derived.Test.YtbnglmeljbiglaaQGZ7
import Derived.Test.YtbnglmeljbiglaaQGZ8
import Derived.Test.YtbnglmeljbiglaaQGZ9
import Derived.Test.YtbnglmeljbiglaaQGZ10
import Derived.Test.YtbnglmeljbiglaaQGZ11
import Derived.Test.YtbnglmeljbiglaaQGZ12
import Derived.Test.YtbnglmeljbiglaaQGZ13
import Derived.Test.YtbnglmeljbiglaaQGZ14
import Derived.Test.YtbnglmeljbiglaaQGZ15
import Derived.Test.YtbnglmeljbiglaaQGZ16
import Derived.Test.YtbnglmeljbiglaaQGZ17
import Derived.Test.YtbnglmeljbiglaaQGZ18
import Derived.Test.YtbnglmeljbiglaaQGZ19
import Derived.Test.YtbnglmeljbiglaaQGZ20
import Derived.Test.YtbnglmeljbiglaaQGZ21
set_option maxRecDepth 8192
namespace Go.Proofs.Ytbnglmeljbiglaa.X4
open Go.Proofs.Ytbnglmeljbiglaa.Rgn
open Go.Proofs.Ytbnglmeljbiglaa.Pt Go.Proofs.Ytbnglmeljbiglaa.Ptb Go.Proofs.Ytbnglmeljbiglaa.Rp Go.Proofs.Ytbnglmeljbiglaa.Wl Go Go.RowKit Go.ChangeMaps Go.Proofs.Ytbnglmeljbiglaa.Arr Go.Proofs.Ytbnglmeljbiglaa.Mp Go.Proofs.Ytbnglmeljbiglaa.Ow Go.Proofs.Ytbnglmeljbiglaa.Dk Go.Proofs.Ytbnglmeljbiglaa.Fr Go.Proofs.YtbnglmeljbiglaaW.PrintWords Go.Proofs.YtbnglmeljbiglaaW.PrintLast Go.Proofs.YtbnglmeljbiglaaW.PrintMore
set_option linter.unusedVariables false
set_option linter.unusedSimpArgs false
set_option maxHeartbeats 16000000 in
set_option maxRecDepth 20000 in
theorem rises_walk (A1 : Option Addr) (c1 : Nat) (l : List S37) (from_ : Int) (w : World) (hr1 : Kd.C k37 w A1 l.length l) (hc1 : l.length ≤ c1) : Calls Try.prog 6 #[.slice A1 l.length c1, .int .i64 from_] w fun e w' => e = .returned (.bool true) ∧ Below w.heap.size w w' := by
  have HR1 := Aside0.mk hr1; have HC1 := Aside0.mk hc1; have HE := Aside0.mk (show (1 : Int) < 4294967290 by decide)
  clear hr1 hc1
  have G := Aside0.mk (Gr.refl w)
  go_enter Try.func6, Try.ntmps6
  have HQ := Aside0.mk (qs_new (n := 64) (L := 64) (by decide) (by decide) (by decide))
  have HNi := Aside0.mk (show -9223372036854775808 ≤ (64 : Int) ∧ (64 : Int) < 9223372036854775808 by decide)
  go_upto_region 2 with (go_at_call 11; (with_reducible refine (newdisk64 G.out).mono ?_); rintro e w1 ⟨g, rfl, hk, hf⟩; have G_n := Aside0.mk (G.out.step hf (by decide)); clear G; have G := G_n; clear G_n; have HD := Aside0.mk hk; clear hk hf)
  go_upto_region 3 with (go_at_call 12; (with_reducible refine (lnew_calls HD.out HQ.out.ok 0 64 (by decide) HNi.out HQ.out.lies).mono ?_); rintro e w1 ⟨gl, m, c1, rfl, hf, hl, hd⟩; have G_n := Aside0.mk (G.out.step hf (by decide)); clear G; have G := G_n; clear G_n; clear HD; have HD := Aside0.mk hd; have HL := Aside0.mk hl; clear hl hd hf)
  generalize newD 64 = d0 at *
  generalize hW0 : newW 0 64 = W0 at *
  generalize (fun _ => 0 : Int → Int) = e0 at *
  by_cases ya : 300 < l.length
  · have z1 : decide ((300 : Int) < (l.length : Int)) = true := decide_eq_true (by omega)
    have z2 : ((300 : Int) < (l.length : Int)) = True := eq_true (by omega)
    go_wp2_with (go_at_call 13; (with_reducible refine (awake_calls _).mono ?_); rintro e w1 ⟨rfl, hb1⟩; have G_n := Aside0.mk (G.out.below hb1); have HD_n := Aside0.mk (HD.out.below hb1); have HL_n := Aside0.mk (HL.out.below hb1); clear G HD HL; have G := G_n; have HD := HD_n; have HL := HL_n; clear G_n HD_n HL_n; clear hb1)
    go_ret
    exact ⟨rfl, G.out.bel⟩
  have ya1 : decide ((300 : Int) < (l.length : Int)) = false := decide_eq_false (by omega)
  have ya2 : ((300 : Int) < (l.length : Int)) = False := eq_false (by omega)
  have HN1 := Aside0.mk (show l.length ≤ 300 by omega)
  have hend : (0 : Int) < endW W0 := by rw [← hW0]; decide
  have hall : allR W0 (fun _ => []) = [] := by rw [← hW0]; decide
  go_upto_region 5 with (go_at_call 13; (with_reducible refine (awake_calls _).mono ?_); rintro e w1 ⟨rfl, hb1⟩; have G_n := Aside0.mk (G.out.below hb1); have HD_n := Aside0.mk (HD.out.below hb1); have HL_n := Aside0.mk (HL.out.below hb1); clear G HD HL; have G := G_n; have HD := HD_n; have HL := HL_n; clear G_n HD_n HL_n; clear hb1)
  clear ya ya1 ya2
  have HEND := Aside0.mk hend; have HALL0 := Aside0.mk hall; clear hend hall hW0
  go_upto_region 8 with (fail)
  go_loopw [9, 10, 44] (fun lv av v wr => ∃ (r : Nat) (W : WS) (R : Int → List Rc_) (d : DS) (e : Int → Int) (c : Nat → Nat) (xs : List En_) (last : Int), v = .int .i64 r ∧ lv = .int .i64 last ∧ Aside0 (r ≤ l.length) ∧ Aside0 (Gr w wr c) ∧ Aside0 (LO wr c gl m g W) ∧ Aside0 (DK wr (Col c 1) g d) ∧ Aside0 (Qs 64 1 W R d e) ∧ Aside0 (NL k44 44 w.heap.size wr c 5 av xs) ∧ Aside0 (xs.length ≤ r) ∧ Aside0 (last < endW W) ∧ Aside0 (xs = (allR W R).filter fun x => decide (from_ ≤ x.f0))) (fun _ _ v _ => l.length - (intOf v).toNat)
  case atStart => exact ⟨0, _, _, _, _, _, [], 0, rfl, rfl, ⟨by omega⟩, G, HL, HD, HQ, ⟨nl_nil _ _ _ _ _ _⟩, ⟨Nat.le_refl _⟩, HEND, ⟨by rw [HALL0.out]; rfl⟩⟩
  case round =>
    clear G HL HD HQ HEND HALL0
    obtain ⟨r, W, R, d, e, c, xs, last, rfl, rfl, HRL, G, HL, HD, HQ, HA_, HLN, HLA, HALL⟩ := hrel
    obtain ⟨Aa, cpa, hav⟩ := HA_.out.slice
    subst hav
    by_cases hlt : r < l.length
    · skip
      have h1 : (r : Int) < (l.length : Int) := by omega
      have hwk : wrap64 ((r : Int) + 1) = ((r + 1 : Nat) : Int) := by have := HN1.out; unfold wrap64; omega
      have HLT := Aside0.mk hlt
      obtain ⟨ad, A9, c9, A10, c10, hA0, q0, q1, q2, q3, q4, q5, q6, q7, q8, q9, q10, l9, g9, l10, g10⟩ := at_T37 HR1.out (r : Int) (by omega) h1
      subst hA0
      replace q0 := pw_cell_below G.out.bel q0
      replace q1 := pw_cell_below G.out.bel q1
      replace q2 := pw_cell_below G.out.bel q2
      replace q3 := pw_cell_below G.out.bel q3
      replace q4 := pw_cell_below G.out.bel q4
      replace q5 := pw_cell_below G.out.bel q5
      replace q6 := pw_cell_below G.out.bel q6
      replace q7 := pw_cell_below G.out.bel q7
      replace q8 := pw_cell_below G.out.bel q8
      replace q9 := pw_cell_below G.out.bel q9
      replace q10 := pw_cell_below G.out.bel q10
      rw [Int.toNat_natCast] at q0 q1 q2 q3 q4 q5 q6 q7 q8 q9 q10
      have H9 := Aside0.mk g9; have H10 := Aside0.mk g10; have L9 := Aside0.mk l9; have L10 := Aside0.mk l10
      clear l9 g9 l10 g10
      generalize rd_T37 l (r : Nat) = o_ at *
      go_upto_region 10 with (fail)
      have hf := fr_alloc [] wr c 4 (.cells #[.int .i64 o_.f0, .int .i64 o_.f1, .int .i64 o_.f2, .int .i64 o_.f3, .int .i64 o_.f4, .int .i64 o_.f5, .int .i64 o_.f6, .string o_.f7, .string o_.f8, .slice A9 o_.f9.length c9, .slice A10 o_.f10.length c10] 37)
      have G_n := Aside0.mk (G.out.step hf (by decide)); have HD_n := Aside0.mk (dk_keep HD.out hf (by decide)); have HL_n := Aside0.mk (HL.out.keep hf (by decide)); have HA__n := Aside0.mk (NL.keep HA_.out G.out hf (by decide) (by decide)); clear G HD HL HA_; have G := G_n; have HD := HD_n; have HL := HL_n; have HA_ := HA__n; clear G_n HD_n HL_n HA__n
      have LB := Aside0.mk (loc_alloc wr c 4 #[.int .i64 o_.f0, .int .i64 o_.f1, .int .i64 o_.f2, .int .i64 o_.f3, .int .i64 o_.f4, .int .i64 o_.f5, .int .i64 o_.f6, .string o_.f7, .string o_.f8, .slice A9 o_.f9.length c9, .slice A10 o_.f10.length c10] 37)
      clear hf
      generalize Dk.paint c wr.heap.size 4 = cLB at *
      generalize wr.alloc (.cells #[.int .i64 o_.f0, .int .i64 o_.f1, .int .i64 o_.f2, .int .i64 o_.f3, .int .i64 o_.f4, .int .i64 o_.f5, .int .i64 o_.f6, .string o_.f7, .string o_.f8, .slice A9 o_.f9.length c9, .slice A10 o_.f10.length c10] 37) = W4 at *
      generalize wr.heap.size = rb at *
      clear q0 q1 q2 q3 q4 q5 q6 q7 q8 q9 q10
      have hcs := LB.out.blk
      obtain ⟨q0, q1, q2, q3, q4, q5, q6, q7, q8, q9, q10⟩ := cells11 W4 rb hcs
      clear hcs
      have hw5 : wrap64 ((r : Int).tmod 5) = (r : Int).tmod 5 := by have := tmod_in (i := (r : Int)) (n := 5) (by omega) (by decide); unfold wrap64; omega
      cases hfw : fewB o_ with
      | false =>
        have HFW := Aside0.mk hfw; clear hfw
        go_wp2_with (go_at_call 22; (with_reducible refine (few_calls o_ A9 c9 A10 c10 _ (Kd.C_below H9.out G.out.bel) L9.out (Kd.C_below H10.out G.out.bel) L10.out).mono ?_); rintro e w1 ⟨rfl, hb1⟩; rw [HFW.out]; have G_n := Aside0.mk (G.out.below hb1); clear G; have G := G_n; clear G_n; clear hb1)
        go_ret
        exact ⟨rfl, G.out.bel⟩
      | true =>
        have HFW := Aside0.mk hfw; clear hfw
        have HZ := Aside0.mk (few_le HFW.out)
        go_upto_region 12 with (go_at_call 22; (with_reducible refine (few_calls o_ A9 c9 A10 c10 _ (Kd.C_below H9.out G.out.bel) L9.out (Kd.C_below H10.out G.out.bel) L10.out).mono ?_); rintro e w1 ⟨rfl, hb1⟩; rw [HFW.out]; have G_n := Aside0.mk (G.out.below hb1); have HD_n := Aside0.mk (HD.out.below hb1); have HL_n := Aside0.mk (HL.out.below hb1); have HA__n := Aside0.mk (NL.below HA_.out hb1); have LB_n := Aside0.mk (LB.out.below hb1); clear G HD HL HA_ LB; have G := G_n; have HD := HD_n; have HL := HL_n; have HA_ := HA__n; have LB := LB_n; clear G_n HD_n HL_n HA__n LB_n; clear hb1)
        (try clear q0 q1 q2 q3 q4 q5 q6 q7 q8 q9 q10)
        have hcs := LB.out.blk
        obtain ⟨q0, q1, q2, q3, q4, q5, q6, q7, q8, q9, q10⟩ := cells11 w1 rb hcs
        clear hcs
        obtain ⟨p, er, W', R', e1, e2, e3, ha, hq⟩ := HQ.out.app o_
        have HP1 := Aside0.mk HQ.out.place; have HP2 := Aside0.mk hq.place
        have HA1 := Aside0.mk e1; have HA2 := Aside0.mk e2; have HA3 := Aside0.mk e3; have HA := Aside0.mk ha; have HQ2 := Aside0.mk hq
        clear e1 e2 e3 ha hq
        go_upto_region 13 with (go_at_call 15; (with_reducible refine (append_calls HL.out (HQ.out.fit HE.out) HQ.out.bd1 o_ A9 c9 A10 c10 (Kd.C_below H9.out G.out.bel) L9.out (Kd.C_below H10.out G.out.bel) L10.out HZ.out).mono ?_); rintro e w1 ⟨rfl, hf, hl⟩; rw [HA1.out, HA2.out]; rw [HA3.out] at hl; have G_n := Aside0.mk (G.out.step hf (by decide)); have HD_n := Aside0.mk (dk_keep HD.out hf (by decide)); have HA__n := Aside0.mk (NL.keep HA_.out G.out hf (by decide) (by decide)); have LB_n := Aside0.mk (LB.out.keep hf (by decide)); clear G HD HA_ LB; have G := G_n; have HD := HD_n; have HA_ := HA__n; have LB := LB_n; clear G_n HD_n HA__n LB_n; clear HL; have HL := Aside0.mk hl; clear hl hf)
        (try clear q0 q1 q2 q3 q4 q5 q6 q7 q8 q9 q10)
        clear HQ
        have HQ := HQ2
        clear HQ2
        by_cases her : er = 0
        · subst her
          have her1 : ((0 : Int) != (0 : Int)) = false := rfl
          have HPP := Aside0.mk (show -9223372036854775808 ≤ p ∧ p < 1000000000000 by have := HA.out.ends rfl; have := HP1.out; have := HP2.out; omega)
          have HRW := Aside0.mk (show recW W' p = o_ by unfold recW; rw [HA.out.find rfl]); have HEW := Aside0.mk (show Wl.errW W' p = 0 by unfold Wl.errW; rw [HA.out.find rfl])
          go_upto_region 15 with (go_at_call 27; (with_reducible refine (lread_calls HL.out HQ.out.bd p HPP.out).mono ?_); rintro e w1 ⟨⟨v, rfl, ht⟩, hb1⟩; rw [HEW.out]; rw [HRW.out] at ht; obtain ⟨B9, d9, B10, d10, rfl, m9, n9, m10, n10⟩ := ht; have M9 := Aside0.mk m9; have M10 := Aside0.mk m10; have N9 := Aside0.mk (Kd.F_now n9); have N10 := Aside0.mk (Kd.F_now n10); clear m9 n9 m10 n10; have G_n := Aside0.mk (G.out.below hb1); have HD_n := Aside0.mk (HD.out.below hb1); have HL_n := Aside0.mk (HL.out.below hb1); have HA__n := Aside0.mk (NL.below HA_.out hb1); have LB_n := Aside0.mk (LB.out.below hb1); clear G HD HL HA_ LB; have G := G_n; have HD := HD_n; have HL := HL_n; have HA_ := HA__n; have LB := LB_n; clear G_n HD_n HL_n HA__n LB_n; clear hb1)
          have y9 := Aside0.mk (Kd.C_alloc N9.out (.cells #[.int .i64 o_.f0, .int .i64 o_.f1, .int .i64 o_.f2, .int .i64 o_.f3, .int .i64 o_.f4, .int .i64 o_.f5, .int .i64 o_.f6, .string o_.f7, .string o_.f8, .slice B9 o_.f9.length d9, .slice B10 o_.f10.length d10] 37)); have y10 := Aside0.mk (Kd.C_alloc N10.out (.cells #[.int .i64 o_.f0, .int .i64 o_.f1, .int .i64 o_.f2, .int .i64 o_.f3, .int .i64 o_.f4, .int .i64 o_.f5, .int .i64 o_.f6, .string o_.f7, .string o_.f8, .slice B9 o_.f9.length d9, .slice B10 o_.f10.length d10] 37))
          clear N9 N10
          have N9 := y9; have N10 := y10
          clear y9 y10
          have hf := fr_alloc [] w1 cLB 4 (.cells #[.int .i64 o_.f0, .int .i64 o_.f1, .int .i64 o_.f2, .int .i64 o_.f3, .int .i64 o_.f4, .int .i64 o_.f5, .int .i64 o_.f6, .string o_.f7, .string o_.f8, .slice B9 o_.f9.length d9, .slice B10 o_.f10.length d10] 37)
          have G_n := Aside0.mk (G.out.step hf (by decide)); have HD_n := Aside0.mk (dk_keep HD.out hf (by decide)); have HL_n := Aside0.mk (HL.out.keep hf (by decide)); have HA__n := Aside0.mk (NL.keep HA_.out G.out hf (by decide) (by decide)); have LB_n := Aside0.mk (LB.out.keep hf (by decide)); clear G HD HL HA_ LB; have G := G_n; have HD := HD_n; have HL := HL_n; have HA_ := HA__n; have LB := LB_n; clear G_n HD_n HL_n HA__n LB_n
          have LX := Aside0.mk (loc_alloc w1 cLB 4 #[.int .i64 o_.f0, .int .i64 o_.f1, .int .i64 o_.f2, .int .i64 o_.f3, .int .i64 o_.f4, .int .i64 o_.f5, .int .i64 o_.f6, .string o_.f7, .string o_.f8, .slice B9 o_.f9.length d9, .slice B10 o_.f10.length d10] 37)
          clear hf
          generalize Dk.paint cLB w1.heap.size 4 = cLX at *
          generalize w1.alloc (.cells #[.int .i64 o_.f0, .int .i64 o_.f1, .int .i64 o_.f2, .int .i64 o_.f3, .int .i64 o_.f4, .int .i64 o_.f5, .int .i64 o_.f6, .string o_.f7, .string o_.f8, .slice B9 o_.f9.length d9, .slice B10 o_.f10.length d10] 37) = W5 at *
          generalize w1.heap.size = xb at *
          have hcs := LX.out.blk
          obtain ⟨x0, x1, x2, x3, x4, x5, x6, x7, x8, x9, x10⟩ := cells11 W5 xb hcs
          clear hcs
          have hcs := LB.out.blk
          obtain ⟨q0, q1, q2, q3, q4, q5, q6, q7, q8, q9, q10⟩ := cells11 W5 rb hcs
          clear hcs
          have l1 : decide (p ≤ last) = false := decide_eq_false (by have := HA.out.ends rfl; have := HLA.out; omega)
          have l2 : (p ≤ last) = False := eq_false (by have := HA.out.ends rfl; have := HLA.out; omega)
          go_upto_region 18 with (go_at_call 28; (with_reducible refine (same_self o_ HFW.out B9 d9 B10 d10 A9 c9 A10 c10 _ N9.out M9.out N10.out M10.out (Kd.C_below H9.out G.out.bel) L9.out (Kd.C_below H10.out G.out.bel) L10.out).mono ?_); rintro e w1 ⟨rfl, hb1⟩; clear N9 N10 LX; have G_n := Aside0.mk (G.out.below hb1); have HD_n := Aside0.mk (HD.out.below hb1); have HL_n := Aside0.mk (HL.out.below hb1); have HA__n := Aside0.mk (NL.below HA_.out hb1); have LB_n := Aside0.mk (LB.out.below hb1); clear G HD HL HA_ LB; have G := G_n; have HD := HD_n; have HL := HL_n; have HA_ := HA__n; have LB := LB_n; clear G_n HD_n HL_n HA__n LB_n; clear hb1)
          (try clear x0 x1 x2 x3 x4 x5 x6 x7 x8 x9 x10)
          (try clear q0 q1 q2 q3 q4 q5 q6 q7 q8 q9 q10)
          clear l1 l2
          have hla : p < endW W' := (HA.out.ends rfl).2
          clear HLA
          have HLA := Aside0.mk hla; clear hla
          have hcs := LB.out.blk
          obtain ⟨q0, q1, q2, q3, q4, q5, q6, q7, q8, q9, q10⟩ := cells11 w1 rb hcs
          clear hcs
          by_cases hge : from_ ≤ p
          · have g1 : decide (from_ ≤ p) = true := decide_eq_true hge
            have g2 : (from_ ≤ p) = True := eq_true hge
            have hal : xs ++ [(⟨p, o_⟩ : En_)] = (allR W' R').filter fun x => decide (from_ ≤ x.f0) := by rw [HA.out.all rfl, List.filter_append, ← HALL.out]; simp [hge]
            have HLM := Aside0.mk (show (xs.length + 1) * 144 ≤ 140737488355328 by have := HLN.out; have := HN1.out; have := HLT.out; omega)
            go_upto_region 20 with ((with_reducible refine gate_builtin (b := .append) (xs := #[.tmp 83, .tmp 87]) rfl ?_); at_builtin; refine Kd.N_append k44 (w0 := w) w.heap.size rfl (.tmp 83) (.tmp 87) 33 44 (.agg #[(.int .i64 0), (.int .i64 0), (.int .i64 0), (.int .i64 0), (.int .i64 0), (.int .i64 0), (.int .i64 0), (.int .i64 0), (.string ⟨#[]⟩), (.string ⟨#[]⟩), (.slice none 0 0), (.slice none 0 0)]) 144 rfl Try.underlying33 X4b.info44 rfl (by decide) (by decide) (.slice Aa xs.length cpa) xs (⟨p, o_⟩ : En_) [.int .i64 p, .int .i64 o_.f0, .int .i64 o_.f1, .int .i64 o_.f2, .int .i64 o_.f3, .int .i64 o_.f4, .int .i64 o_.f5, .int .i64 o_.f6, .string o_.f7, .string o_.f8, .slice A9 o_.f9.length c9, .slice A10 o_.f10.length c10] _ (fun k => k < w.heap.size) rfl rfl (fk_ent G.out.bel ⟨p, o_⟩ H9.out L9.out H10.out L10.out) HA_.out.old (ok_new _ _ _ _) (HA_.out.paint 5) G.out.bel G.out.bel.size HLM.out ?_; intro v1 w5 hv hb5 hg hat; have hf := fr_grown hg 5 HA_.out.own; have G_n := Aside0.mk (G.out.step hf (by decide)); have HD_n := Aside0.mk (dk_keep HD.out hf (by decide)); have HL_n := Aside0.mk (HL.out.keep hf (by decide)); clear G HD HL; have G := G_n; have HD := HD_n; have HL := HL_n; clear G_n HD_n HL_n; clear HA_; have HA_ := Aside0.mk (show NL k44 44 w.heap.size w5 _ 5 v1 (xs ++ [(⟨p, o_⟩ : En_)]) from hv); clear hv hb5 hg hat hf)
            (try clear q0 q1 q2 q3 q4 q5 q6 q7 q8 q9 q10)
            clear LB hge g1 g2 HLM
            have hln : (xs ++ [(⟨p, o_⟩ : En_)]).length ≤ r + 1 := by rw [List.length_append, List.length_singleton]; have := HLN.out; omega
            clear HLN HALL
            have HLN := Aside0.mk hln; have HALL := Aside0.mk hal; clear hln hal
            generalize xs ++ [(⟨p, o_⟩ : En_)] = xs1 at *
            by_cases h5 : (r : Int) % 5 = 4
            · have h51 : ((r : Int) % 5 == (4 : Int)) = true := beq_iff_eq.2 h5
              go_upto_region 22 with (go_at_call 16; (with_reducible refine (flush_calls HL.out HD.out HQ.out.ok (by decide) (HQ.out.fit HE.out) HQ.out.bd HQ.out.gap.1 HQ.out.gap.2).mono ?_); rintro e w1 ⟨rfl, c1, hf, hl, hd, ho⟩; obtain ⟨o1, o2, o3, o4, o5⟩ := HQ.out.done; obtain ⟨f1, f2, f3, f4⟩ := HQ.out.flush HE.out; rw [f1]; rw [f2] at hl; have G_n := Aside0.mk (G.out.step hf (by decide)); have HA__n := Aside0.mk (NL.keep HA_.out G.out hf (by decide) (by decide)); clear G HA_; have G := G_n; have HA_ := HA__n; clear G_n HA__n; clear HD HL HQ; have HD := Aside0.mk hd; have HL := Aside0.mk hl; have HQ := Aside0.mk f3; have HDN3 := Aside0.mk o3; have HDN4 := Aside0.mk o4; clear hl hd hf ho f1 f2 f3 f4 o1 o2 o3 o4 o5)
              clear h5 h51
              have hla := Int.lt_of_lt_of_le HLA.out HDN4.out
              rw [← HDN3.out] at HALL
              clear HLA
              have HLA := Aside0.mk hla; clear hla
              go_wp2
              go_roundw
              case rel => exact ⟨r + 1, _, _, _, _, _, _, _, by first | rfl | (rw [hwk]) | go_num, rfl, ⟨by have := HLT.out; omega⟩, G, HL, HD, HQ, HA_, HLN, HLA, HALL⟩
              case measure =>
                have := HLT.out
                (try rw [hwk])
                show l.length - (intOf (.int .i64 ((r + 1 : Nat) : Int))).toNat < l.length - (intOf (.int .i64 (r : Int))).toNat
                simp only [intOf]; omega
            · have h51 : ((r : Int) % 5 == (4 : Int)) = false := beq_eq_false_iff_ne.2 h5
              go_wp2
              go_roundw
              case rel => exact ⟨r + 1, _, _, _, _, _, _, _, by first | rfl | (rw [hwk]) | go_num, rfl, ⟨by have := HLT.out; omega⟩, G, HL, HD, HQ, HA_, HLN, HLA, HALL⟩
              case measure =>
                have := HLT.out
                (try rw [hwk])
                show l.length - (intOf (.int .i64 ((r + 1 : Nat) : Int))).toNat < l.length - (intOf (.int .i64 (r : Int))).toNat
                simp only [intOf]; omega
          · have g1 : decide (from_ ≤ p) = false := decide_eq_false hge
            have g2 : (from_ ≤ p) = False := eq_false hge
            have hal : xs = (allR W' R').filter fun x => decide (from_ ≤ x.f0) := by rw [HA.out.all rfl, List.filter_append, ← HALL.out]; simp [hge]
            go_upto_region 20 with (fail)
            (try clear q0 q1 q2 q3 q4 q5 q6 q7 q8 q9 q10)
            clear LB hge g1 g2
            have hln : xs.length ≤ r + 1 := by have := HLN.out; omega
            clear HLN HALL
            have HLN := Aside0.mk hln; have HALL := Aside0.mk hal; clear hln hal
            by_cases h5 : (r : Int) % 5 = 4
            · have h51 : ((r : Int) % 5 == (4 : Int)) = true := beq_iff_eq.2 h5
              go_upto_region 22 with (go_at_call 16; (with_reducible refine (flush_calls HL.out HD.out HQ.out.ok (by decide) (HQ.out.fit HE.out) HQ.out.bd HQ.out.gap.1 HQ.out.gap.2).mono ?_); rintro e w1 ⟨rfl, c1, hf, hl, hd, ho⟩; obtain ⟨o1, o2, o3, o4, o5⟩ := HQ.out.done; obtain ⟨f1, f2, f3, f4⟩ := HQ.out.flush HE.out; rw [f1]; rw [f2] at hl; have G_n := Aside0.mk (G.out.step hf (by decide)); have HA__n := Aside0.mk (NL.keep HA_.out G.out hf (by decide) (by decide)); clear G HA_; have G := G_n; have HA_ := HA__n; clear G_n HA__n; clear HD HL HQ; have HD := Aside0.mk hd; have HL := Aside0.mk hl; have HQ := Aside0.mk f3; have HDN3 := Aside0.mk o3; have HDN4 := Aside0.mk o4; clear hl hd hf ho f1 f2 f3 f4 o1 o2 o3 o4 o5)
              clear h5 h51
              have hla := Int.lt_of_lt_of_le HLA.out HDN4.out
              rw [← HDN3.out] at HALL
              clear HLA
              have HLA := Aside0.mk hla; clear hla
              go_wp2
              go_roundw
              case rel => exact ⟨r + 1, _, _, _, _, _, _, _, by first | rfl | (rw [hwk]) | go_num, rfl, ⟨by have := HLT.out; omega⟩, G, HL, HD, HQ, HA_, HLN, HLA, HALL⟩
              case measure =>
                have := HLT.out
                (try rw [hwk])
                show l.length - (intOf (.int .i64 ((r + 1 : Nat) : Int))).toNat < l.length - (intOf (.int .i64 (r : Int))).toNat
                simp only [intOf]; omega
            · have h51 : ((r : Int) % 5 == (4 : Int)) = false := beq_eq_false_iff_ne.2 h5
              go_wp2
              go_roundw
              case rel => exact ⟨r + 1, _, _, _, _, _, _, _, by first | rfl | (rw [hwk]) | go_num, rfl, ⟨by have := HLT.out; omega⟩, G, HL, HD, HQ, HA_, HLN, HLA, HALL⟩
              case measure =>
                have := HLT.out
                (try rw [hwk])
                show l.length - (intOf (.int .i64 ((r + 1 : Nat) : Int))).toNat < l.length - (intOf (.int .i64 (r : Int))).toNat
                simp only [intOf]; omega
        · have her1 : (er != (0 : Int)) = true := bne_iff_ne.2 her
          obtain ⟨z1, z2⟩ := HA.out.no her
          subst z1; subst z2
          have hln : xs.length ≤ r + 1 := by have := HLN.out; omega
          clear HLN LB
          have HLN := Aside0.mk hln; clear hln
          go_wp2
          go_roundw
          case rel => exact ⟨r + 1, _, _, _, _, _, _, _, by first | rfl | (rw [hwk]) | go_num, rfl, ⟨by have := HLT.out; omega⟩, G, HL, HD, HQ, HA_, HLN, HLA, HALL⟩
          case measure =>
            have := HLT.out
            (try rw [hwk])
            show l.length - (intOf (.int .i64 ((r + 1 : Nat) : Int))).toNat < l.length - (intOf (.int .i64 (r : Int))).toNat
            simp only [intOf]; omega
    · obtain rfl : r = l.length := by have := HRL.out; omega
      clear hlt
      have HEQ := Aside0.mk (show scanF W from_ = xs by rw [HQ.out.keep.rows.scan, ← HALL.out])
      have HOKX := Aside0.mk (show ∀ x ∈ xs, okE x by rw [← HEQ.out]; exact scan_ok _ _); have HLX := Aside0.mk (show xs.length ≤ 1000000 by have := HLN.out; have := HN1.out; omega)
      go_wp2_with (first | (go_at_call 20; (with_reducible refine (scan_calls HL.out (HQ.out.fit HE.out) HQ.out.bd HQ.out.sgap from_).mono ?_); rintro e w1 ⟨v, rfl, hn, hb1⟩; rw [HEQ.out] at hn; obtain ⟨A_, c_, rfl, hl_, hC_⟩ := Kd.N_reads hn; have HCa := Aside0.mk hC_; have HCal := Aside0.mk hl_; have G_n := Aside0.mk (G.out.below hb1); have HD_n := Aside0.mk (HD.out.below hb1); have HL_n := Aside0.mk (HL.out.below hb1); have HA__n := Aside0.mk (NL.below HA_.out hb1); clear G HD HL HA_; have G := G_n; have HD := HD_n; have HL := HL_n; have HA_ := HA__n; clear G_n HD_n HL_n HA__n; clear hb1 hn hC_ hl_) | (go_at_call 21; (with_reducible refine (sameall_eq _ _ _ _ _ _ HCa.out HA_.out.reads.2.2 HOKX.out HLX.out).mono ?_); rintro e w1 ⟨rfl, hb1⟩; clear HCa; have G_n := Aside0.mk (G.out.below hb1); have HD_n := Aside0.mk (HD.out.below hb1); have HL_n := Aside0.mk (HL.out.below hb1); have HA__n := Aside0.mk (NL.below HA_.out hb1); clear G HD HL HA_; have G := G_n; have HD := HD_n; have HL := HL_n; have HA_ := HA__n; clear G_n HD_n HL_n HA__n; clear hb1))
      go_ret
      exact ⟨rfl, G.out.bel⟩
def careenlaw05_WalRises.f (l0 : List S37) (a1 : Int) : Option Bool := some true
theorem careenlaw05_WalRises.calls (A0 : Option Addr) (c0 : Nat) (l0 : List S37) (a1 : Int) (r : Bool) (w : World) (hr0 : Kd.C k37 w A0 l0.length l0) (hc0 : l0.length ≤ c0) (h : careenlaw05_WalRises.f l0 a1 = some r) :
    Calls Try.prog 6 #[.slice A0 l0.length c0, .int .i64 a1] w fun e w' => e = .returned (.bool r) ∧ Below w.heap.size w w' := by
  obtain rfl := Option.some.inj h
  exact rises_walk A0 c0 l0 a1 w hr0 hc0
end Go.Proofs.Ytbnglmeljbiglaa.X4
