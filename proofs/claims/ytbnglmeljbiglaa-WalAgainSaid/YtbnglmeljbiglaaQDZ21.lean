import Derived.Test.YtbnglmeljbiglaaQDZ0
import Derived.Test.YtbnglmeljbiglaaQDZ1
import Derived.Test.YtbnglmeljbiglaaQDZ2
import Derived.Test.YtbnglmeljbiglaaQDZ3
import Derived.Test.YtbnglmeljbiglaaQDZ4
import Derived.Test.YtbnglmeljbiglaaQDZ5
import Derived.Test.YtbnglmeljbiglaaQDZ6
import Derived.Test.YtbnglmeljbiglaaQDZ7
import Derived.Test.YtbnglmeljbiglaaQDZ8
import Derived.Test.YtbnglmeljbiglaaQDZ9
import Derived.Test.YtbnglmeljbiglaaQDZ10
import Derived.Test.YtbnglmeljbiglaaQDZ11
import Derived.Test.YtbnglmeljbiglaaQDZ12
import Derived.Test.YtbnglmeljbiglaaQDZ13
import Derived.Test.YtbnglmeljbiglaaQDZ14
import Derived.Test.YtbnglmeljbiglaaQDZ15
import Derived.Test.YtbnglmeljbiglaaQDZ16
import Derived.Test.YtbnglmeljbiglaaQDZ17
import Derived.Test.YtbnglmeljbiglaaQDZ18
import Derived.Test.YtbnglmeljbiglaaQDZ19
import Derived.Test.YtbnglmeljbiglaaQDZ20
set_option maxRecDepth 8192
namespace Go.Proofs.Ytbnglmeljbiglaa.X4
open Go.Proofs.Ytbnglmeljbiglaa.Pt Go.Proofs.Ytbnglmeljbiglaa.Ptb Go.Proofs.Ytbnglmeljbiglaa.Rp Go.Proofs.Ytbnglmeljbiglaa.Wl Go Go.RowKit Go.ChangeMaps Go.Proofs.Ytbnglmeljbiglaa.Arr Go.Proofs.Ytbnglmeljbiglaa.Mp Go.Proofs.Ytbnglmeljbiglaa.Ow Go.Proofs.Ytbnglmeljbiglaa.Dk Go.Proofs.Ytbnglmeljbiglaa.Fr Go.Proofs.YtbnglmeljbiglaaW.PrintWords Go.Proofs.YtbnglmeljbiglaaW.PrintLast Go.Proofs.YtbnglmeljbiglaaW.PrintMore
set_option linter.unusedVariables false
set_option linter.unusedSimpArgs false
set_option maxHeartbeats 16000000 in
set_option maxRecDepth 20000 in
theorem keeps_walk (n : Int) (A0 : Option Addr) (c0 : Nat) (l : List S40) (w : World) (hr : Kd.C k40 w A0 l.length l) (hc0 : l.length ≤ c0) (ho : OkOps l) : Calls Try.prog 3 #[.int .i64 n, .slice A0 l.length c0] w fun e w' => e = .returned (.bool true) ∧ Below w.heap.size w w' := by
  have hm := Kd.C_max hr
  have HR := Aside0.mk hr; have HC0 := Aside0.mk hc0; have HOPS := Aside0.mk ho
  clear hr hc0 ho
  have G := Aside0.mk (Gr.refl w)
  go_enter Try.func3, Try.ntmps3
  have hi := Lv.mod_ok 20 n (by decide) (by decide)
  have hwn : wrap64 (8 + wrap64 ((IntKind.u64.wrap n).tmod 20)) = 8 + wrap64 ((IntKind.u64.wrap n).tmod 20) := by
    generalize wrap64 ((IntKind.u64.wrap n).tmod 20) = z at *
    unfold wrap64; omega
  go_upto_region 2 with (fail)
  (try simp only [hwn])
  clear hwn
  obtain ⟨N, hN⟩ : ∃ N : Nat, 8 + wrap64 ((IntKind.u64.wrap n).tmod 20) = (N : Int) := ⟨(8 + wrap64 ((IntKind.u64.wrap n).tmod 20)).toNat, by omega⟩
  (try rw [hN])
  have hn8 : 8 ≤ N ∧ N ≤ 27 := by omega
  clear hN hi
  have HNa := Aside0.mk (show 1 ≤ N by omega); have HNb := Aside0.mk (show N ≤ 512 by omega); have HNi := Aside0.mk (show -9223372036854775808 ≤ (N : Int) ∧ (N : Int) < 9223372036854775808 by omega); have HNc := Aside0.mk (show (1 : Int) ≤ (N : Int) ∧ (N : Int) ≤ 64 by omega)
  have HQ := Aside0.mk (qs_new (n := (N : Int)) (L := N) (by omega) (Int.le_refl _) (by omega))
  clear hn8
  go_upto_region 3 with (go_at_call 11; (with_reducible refine (newdiskG N HNa.out HNb.out G.out).mono ?_); rintro e w1 ⟨g, rfl, hk, hf⟩; have G_n := Aside0.mk (G.out.step hf (by decide)); clear G; have G := G_n; clear G_n; have HD := Aside0.mk hk; clear hk hf)
  go_upto_region 4 with (go_at_call 12; (with_reducible refine (lnew_calls HD.out HQ.out.ok 0 (N : Int) (by decide) HNi.out HQ.out.lies).mono ?_); rintro e w1 ⟨gl, m, c1, rfl, hf, hl, hd⟩; have G_n := Aside0.mk (G.out.step hf (by decide)); clear G; have G := G_n; clear G_n; clear HD; have HD := Aside0.mk hd; have HL := Aside0.mk hl; clear hl hd hf)
  generalize newD N = d0 at *
  generalize hW0 : newW 0 (N : Int) = W0 at *
  generalize (fun _ => 0 : Int → Int) = e0 at *
  have hall : allR W0 (fun _ => []) = [] := by rw [← hW0]; rfl
  have hsaf : safeL W0 (fun _ => []) = [] := by rw [← hW0]; rfl
  have HALL0 := Aside0.mk hall; have HSF0 := Aside0.mk hsaf
  clear hall hsaf hW0
  cases hlg : longF l with
  | true =>
    go_wp2_with (first | (go_at_call 13; (with_reducible refine (awake_calls _).mono ?_); rintro e w1 ⟨rfl, hb1⟩; have G_n := Aside0.mk (G.out.below hb1); have HD_n := Aside0.mk (HD.out.below hb1); have HL_n := Aside0.mk (HL.out.below hb1); clear G HD HL; have G := G_n; have HD := HD_n; have HL := HL_n; clear G_n HD_n HL_n; clear hb1) | (go_at_call 14; (with_reducible refine (long_calls _ _ _ _ (Kd.C_below HR.out G.out.bel) HC0.out).mono ?_); rintro e w1 ⟨rfl, hb1⟩; have G_n := Aside0.mk (G.out.below hb1); have HD_n := Aside0.mk (HD.out.below hb1); have HL_n := Aside0.mk (HL.out.below hb1); clear G HD HL; have G := G_n; have HD := HD_n; have HL := HL_n; clear G_n HD_n HL_n; clear hb1))
    go_ret
    exact ⟨rfl, G.out.bel⟩
  | false =>
    have HLG := Aside0.mk (long_no hlg)
    go_upto_region 6 with (first | (go_at_call 13; (with_reducible refine (awake_calls _).mono ?_); rintro e w1 ⟨rfl, hb1⟩; have G_n := Aside0.mk (G.out.below hb1); have HD_n := Aside0.mk (HD.out.below hb1); have HL_n := Aside0.mk (HL.out.below hb1); clear G HD HL; have G := G_n; have HD := HD_n; have HL := HL_n; clear G_n HD_n HL_n; clear hb1) | (go_at_call 14; (with_reducible refine (long_calls _ _ _ _ (Kd.C_below HR.out G.out.bel) HC0.out).mono ?_); rintro e w1 ⟨rfl, hb1⟩; have G_n := Aside0.mk (G.out.below hb1); have HD_n := Aside0.mk (HD.out.below hb1); have HL_n := Aside0.mk (HL.out.below hb1); clear G HD HL; have G := G_n; have HD := HD_n; have HL := HL_n; clear G_n HD_n HL_n; clear hb1))
    clear hlg
    go_upto_region 9 with (fail)
    go_loopw [7, 9, 10, 49] (fun lp av sv v wr => ∃ (r : Nat) (gl m : Nat) (W : WS) (R : Int → List Rc_) (d : DS) (e : Int → Int) (c : Nat → Nat) (xs : List En_), lp = .pointer (some ⟨gl, 0, none⟩) ∧ sv = .int .i64 ((safeL W R).length : Nat) ∧ v = .int .i64 r ∧ Aside0 (r ≤ l.length) ∧ Aside0 (Gr w wr c) ∧ Aside0 (LO wr c gl m g W) ∧ Aside0 (DK wr (Col c 1) g d) ∧ Aside0 (Qs (N : Int) (1 + (r : Int)) W R d e) ∧ Aside0 (NL k44 44 w.heap.size wr c 5 av xs) ∧ Aside0 (xs.length ≤ r) ∧ Aside0 (xs = allR W R)) (fun _ _ _ v _ => l.length - (intOf v).toNat)
    case atStart => exact ⟨0, gl, m, _, _, _, _, _, [], rfl, by rw [HSF0.out]; rfl, rfl, ⟨by omega⟩, G, HL, HD, HQ, ⟨nl_nil _ _ _ _ _ _⟩, ⟨Nat.le_refl _⟩, ⟨HALL0.out.symm⟩⟩
    case round =>
      clear G HL HD HQ HALL0 HSF0
      obtain ⟨r, gl, m, W, R, d, e, c, xs, rfl, rfl, rfl, HRL, G, HL, HD, HQ, HA_, HLN, HALL⟩ := hrel
      obtain ⟨Aa, cpa, hav⟩ := HA_.out.slice
      subst hav
      by_cases hlt : r < l.length
      · skip
        have h1 : (r : Int) < (l.length : Int) := by omega
        have hwk : wrap64 ((r : Int) + 1) = ((r + 1 : Nat) : Int) := by unfold wrap64; omega
        have HLT := Aside0.mk hlt
        have HE := Aside0.mk (show 1 + (r : Int) < 4294967290 by have := HLG.out.1; omega); have HE3 := Aside0.mk (show 1 + (r : Int) < 4294967280 by have := HLG.out.1; omega); have HE2 := Aside0.mk (show 1 + (r : Int) + 1 < 4294967290 by have := HLG.out.1; omega); have HXN := Aside0.mk (show xs.length ≤ 200 by have := HLN.out; have := HLG.out.1; omega)
        obtain ⟨ad, A11, c11, A12, c12, A13, c13, hA0, q0, q1, q2, q3, q4, q5, q6, q7, q8, q9, q10, q11, q12, q13, l11, g11, l12, g12, l13, g13⟩ := at_T40 HR.out (r : Int) (by omega) h1
        subst hA0
        replace q0 := pw_cell_below G.out.bel q0
        replace q1 := pw_cell_below G.out.bel q1
        replace q2 := pw_cell_below G.out.bel q2
        replace q3 := pw_cell_below G.out.bel q3
        replace q4 := pw_cell_below G.out.bel q4
        replace q5 := pw_cell_below G.out.bel q5
        replace q6 := pw_cell_below G.out.bel q6
        replace q7 := pw_cell_below G.out.bel q7
        replace q8 := pw_cell_below G.out.bel q8
        replace q9 := pw_cell_below G.out.bel q9
        replace q10 := pw_cell_below G.out.bel q10
        replace q11 := pw_cell_below G.out.bel q11
        replace q12 := pw_cell_below G.out.bel q12
        replace q13 := pw_cell_below G.out.bel q13
        rw [Int.toNat_natCast] at q0 q1 q2 q3 q4 q5 q6 q7 q8 q9 q10 q11 q12 q13
        have HZ := Aside0.mk (few_le (HLG.out.2 _ (rd_mem hlt)).1)
        have H11 := Aside0.mk g11; have H12 := Aside0.mk g12; have H13 := Aside0.mk g13; have L11 := Aside0.mk l11; have L12 := Aside0.mk l12; have HOP := Aside0.mk (HOPS.out _ (rd_mem hlt)).2.2
        clear l11 g11 l12 g12 l13 g13
        generalize rd_T40 l (r : Nat) = o_ at *
        go_upto_region 11 with (fail)
        have hf := fr_alloc [] wr c 4 (.cells #[.int .i64 o_.f0, .int .i64 o_.f1, .int .i64 o_.f2.f0, .int .i64 o_.f2.f1, .int .i64 o_.f2.f2, .int .i64 o_.f2.f3, .int .i64 o_.f2.f4, .int .i64 o_.f2.f5, .int .i64 o_.f2.f6, .string o_.f2.f7, .string o_.f2.f8, .slice A11 o_.f2.f9.length c11, .slice A12 o_.f2.f10.length c12, .slice A13 o_.f3.length c13] 40)
        have G_n := Aside0.mk (G.out.step hf (by decide)); have HD_n := Aside0.mk (dk_keep HD.out hf (by decide)); have HL_n := Aside0.mk (HL.out.keep hf (by decide)); have HA__n := Aside0.mk (NL.keep HA_.out G.out hf (by decide) (by decide)); clear G HD HL HA_; have G := G_n; have HD := HD_n; have HL := HL_n; have HA_ := HA__n; clear G_n HD_n HL_n HA__n
        have LB := Aside0.mk (loc_alloc wr c 4 #[.int .i64 o_.f0, .int .i64 o_.f1, .int .i64 o_.f2.f0, .int .i64 o_.f2.f1, .int .i64 o_.f2.f2, .int .i64 o_.f2.f3, .int .i64 o_.f2.f4, .int .i64 o_.f2.f5, .int .i64 o_.f2.f6, .string o_.f2.f7, .string o_.f2.f8, .slice A11 o_.f2.f9.length c11, .slice A12 o_.f2.f10.length c12, .slice A13 o_.f3.length c13] 40)
        clear hf
        generalize Dk.paint c wr.heap.size 4 = cLB at *
        generalize wr.alloc (.cells #[.int .i64 o_.f0, .int .i64 o_.f1, .int .i64 o_.f2.f0, .int .i64 o_.f2.f1, .int .i64 o_.f2.f2, .int .i64 o_.f2.f3, .int .i64 o_.f2.f4, .int .i64 o_.f2.f5, .int .i64 o_.f2.f6, .string o_.f2.f7, .string o_.f2.f8, .slice A11 o_.f2.f9.length c11, .slice A12 o_.f2.f10.length c12, .slice A13 o_.f3.length c13] 40) = W4 at *
        generalize wr.heap.size = ob at *
        clear q0 q1 q2 q3 q4 q5 q6 q7 q8 q9 q10 q11 q12 q13
        have hcs := LB.out.blk
        have q0 : W4.cell? ⟨ob, 0, none⟩ = some (.int .i64 o_.f0) := blk_cell hcs 0
        have q1 : W4.cell? ⟨ob, 1, none⟩ = some (.int .i64 o_.f1) := blk_cell hcs 1
        have q2 : W4.cell? ⟨ob, 2, none⟩ = some (.int .i64 o_.f2.f0) := blk_cell hcs 2
        have q3 : W4.cell? ⟨ob, 3, none⟩ = some (.int .i64 o_.f2.f1) := blk_cell hcs 3
        have q4 : W4.cell? ⟨ob, 4, none⟩ = some (.int .i64 o_.f2.f2) := blk_cell hcs 4
        have q5 : W4.cell? ⟨ob, 5, none⟩ = some (.int .i64 o_.f2.f3) := blk_cell hcs 5
        have q6 : W4.cell? ⟨ob, 6, none⟩ = some (.int .i64 o_.f2.f4) := blk_cell hcs 6
        have q7 : W4.cell? ⟨ob, 7, none⟩ = some (.int .i64 o_.f2.f5) := blk_cell hcs 7
        have q8 : W4.cell? ⟨ob, 8, none⟩ = some (.int .i64 o_.f2.f6) := blk_cell hcs 8
        have q9 : W4.cell? ⟨ob, 9, none⟩ = some (.string o_.f2.f7) := blk_cell hcs 9
        have q10 : W4.cell? ⟨ob, 10, none⟩ = some (.string o_.f2.f8) := blk_cell hcs 10
        have q11 : W4.cell? ⟨ob, 11, none⟩ = some (.slice A11 o_.f2.f9.length c11) := blk_cell hcs 11
        have q12 : W4.cell? ⟨ob, 12, none⟩ = some (.slice A12 o_.f2.f10.length c12) := blk_cell hcs 12
        have q13 : W4.cell? ⟨ob, 13, none⟩ = some (.slice A13 o_.f3.length c13) := blk_cell hcs 13
        clear hcs
        by_cases hk : o_.f0 = 1
        · have hk1 : (o_.f0 == (1 : Int)) = true := beq_iff_eq.2 hk
          obtain ⟨p, er, W', R', e1, e2, e3, ha, hq⟩ := HQ.out.app o_.f2
          have HSL := Aside0.mk (ha.old HQ.out.ord.1.1)
          have HA1 := Aside0.mk e1; have HA2 := Aside0.mk e2; have HA3 := Aside0.mk e3; have HA := Aside0.mk ha; have HQ2 := Aside0.mk hq
          clear e1 e2 e3 ha hq
          go_upto_region 26 with (go_at_call 15; (with_reducible refine (append_calls HL.out (HQ.out.fit HE.out) HQ.out.bd1 o_.f2 A11 c11 A12 c12 (Kd.C_below H11.out G.out.bel) L11.out (Kd.C_below H12.out G.out.bel) L12.out HZ.out).mono ?_); rintro e w1 ⟨rfl, hf, hl⟩; rw [HA1.out, HA2.out]; rw [HA3.out] at hl; have G_n := Aside0.mk (G.out.step hf (by decide)); have HD_n := Aside0.mk (dk_keep HD.out hf (by decide)); have HA__n := Aside0.mk (NL.keep HA_.out G.out hf (by decide) (by decide)); have LB_n := Aside0.mk (LB.out.keep hf (by decide)); clear G HD HA_ LB; have G := G_n; have HD := HD_n; have HA_ := HA__n; have LB := LB_n; clear G_n HD_n HA__n LB_n; clear HL; have HL := Aside0.mk hl; clear hl hf)
          (try clear q0 q1 q2 q3 q4 q5 q6 q7 q8 q9 q10 q11 q12 q13)
          clear hk hk1 HQ
          have HQ := HQ2
          clear HQ2
          rw [← HSL.out]
          by_cases her : er = 0
          · subst her
            have hcs := LB.out.blk
            have q0 : w1.cell? ⟨ob, 0, none⟩ = some (.int .i64 o_.f0) := blk_cell hcs 0
            have q1 : w1.cell? ⟨ob, 1, none⟩ = some (.int .i64 o_.f1) := blk_cell hcs 1
            have q2 : w1.cell? ⟨ob, 2, none⟩ = some (.int .i64 o_.f2.f0) := blk_cell hcs 2
            have q3 : w1.cell? ⟨ob, 3, none⟩ = some (.int .i64 o_.f2.f1) := blk_cell hcs 3
            have q4 : w1.cell? ⟨ob, 4, none⟩ = some (.int .i64 o_.f2.f2) := blk_cell hcs 4
            have q5 : w1.cell? ⟨ob, 5, none⟩ = some (.int .i64 o_.f2.f3) := blk_cell hcs 5
            have q6 : w1.cell? ⟨ob, 6, none⟩ = some (.int .i64 o_.f2.f4) := blk_cell hcs 6
            have q7 : w1.cell? ⟨ob, 7, none⟩ = some (.int .i64 o_.f2.f5) := blk_cell hcs 7
            have q8 : w1.cell? ⟨ob, 8, none⟩ = some (.int .i64 o_.f2.f6) := blk_cell hcs 8
            have q9 : w1.cell? ⟨ob, 9, none⟩ = some (.string o_.f2.f7) := blk_cell hcs 9
            have q10 : w1.cell? ⟨ob, 10, none⟩ = some (.string o_.f2.f8) := blk_cell hcs 10
            have q11 : w1.cell? ⟨ob, 11, none⟩ = some (.slice A11 o_.f2.f9.length c11) := blk_cell hcs 11
            have q12 : w1.cell? ⟨ob, 12, none⟩ = some (.slice A12 o_.f2.f10.length c12) := blk_cell hcs 12
            have q13 : w1.cell? ⟨ob, 13, none⟩ = some (.slice A13 o_.f3.length c13) := blk_cell hcs 13
            clear hcs
            have HLM := Aside0.mk (show (xs.length + 1) * 144 ≤ 140737488355328 by have := HXN.out; omega)
            have hal : xs ++ [(⟨p, o_.f2⟩ : En_)] = allR W' R' := by rw [HA.out.all rfl, ← HALL.out]
            go_upto_region 33 with ((with_reducible refine gate_builtin (b := .append) (xs := #[.tmp 106, .tmp 111]) rfl ?_); at_builtin; refine Kd.N_append k44 (w0 := w) w.heap.size rfl (.tmp 106) (.tmp 111) 33 44 (.agg #[(.int .i64 0), (.int .i64 0), (.int .i64 0), (.int .i64 0), (.int .i64 0), (.int .i64 0), (.int .i64 0), (.int .i64 0), (.string ⟨#[]⟩), (.string ⟨#[]⟩), (.slice none 0 0), (.slice none 0 0)]) 144 rfl Try.underlying33 X4b.info44 rfl (by decide) (by decide) (.slice Aa xs.length cpa) xs (⟨p, o_.f2⟩ : En_) [.int .i64 p, .int .i64 o_.f2.f0, .int .i64 o_.f2.f1, .int .i64 o_.f2.f2, .int .i64 o_.f2.f3, .int .i64 o_.f2.f4, .int .i64 o_.f2.f5, .int .i64 o_.f2.f6, .string o_.f2.f7, .string o_.f2.f8, .slice A11 o_.f2.f9.length c11, .slice A12 o_.f2.f10.length c12] _ (fun k => k < w.heap.size) rfl rfl (fk_ent G.out.bel ⟨p, o_.f2⟩ H11.out L11.out H12.out L12.out) HA_.out.old (ok_new _ _ _ _) (HA_.out.paint 5) G.out.bel G.out.bel.size HLM.out ?_; intro v1 w5 hv hb5 hg hat; have hf := fr_grown hg 5 HA_.out.own; have G_n := Aside0.mk (G.out.step hf (by decide)); have HD_n := Aside0.mk (dk_keep HD.out hf (by decide)); have HL_n := Aside0.mk (HL.out.keep hf (by decide)); clear G HD HL; have G := G_n; have HD := HD_n; have HL := HL_n; clear G_n HD_n HL_n; clear HA_; have HA_ := Aside0.mk (show NL k44 44 w.heap.size w5 _ 5 v1 (xs ++ [(⟨p, o_.f2⟩ : En_)]) from hv); clear hv hb5 hg hat hf)
            (try clear q0 q1 q2 q3 q4 q5 q6 q7 q8 q9 q10 q11 q12 q13)
            clear LB HLM
            have hln : (xs ++ [(⟨p, o_.f2⟩ : En_)]).length ≤ r + 1 := by rw [List.length_append, List.length_singleton]; have := HLN.out; omega
            clear HLN HALL
            have HLN := Aside0.mk hln; have HALL := Aside0.mk hal; clear hln hal
            generalize xs ++ [(⟨p, o_.f2⟩ : En_)] = xs1 at *
            obtain ⟨Ab, cpb, hav⟩ := HA_.out.slice
            subst hav
            have HEQ := Aside0.mk (show scanF W' 0 = xs1 from HQ.out.keep.rows.scan0.trans HALL.out.symm)
            have HOKX := Aside0.mk (show ∀ x ∈ xs1, okE x by rw [← HEQ.out]; exact scan_ok _ _); have HLX := Aside0.mk (show xs1.length ≤ 1000000 by have := HLN.out; have := HLG.out.1; have := HLT.out; omega)
            go_upto_region 35 with (first | (go_at_call 20; (with_reducible refine (scan_calls HL.out (HQ.out.fit HE.out) HQ.out.bd HQ.out.sgap 0).mono ?_); rintro e w1 ⟨v, rfl, hn, hb1⟩; rw [HEQ.out] at hn; obtain ⟨A_, c_, rfl, hl_, hC_⟩ := Kd.N_reads hn; have HCa := Aside0.mk hC_; have G_n := Aside0.mk (G.out.below hb1); have HD_n := Aside0.mk (HD.out.below hb1); have HL_n := Aside0.mk (HL.out.below hb1); have HA__n := Aside0.mk (NL.below HA_.out hb1); clear G HD HL HA_; have G := G_n; have HD := HD_n; have HL := HL_n; have HA_ := HA__n; clear G_n HD_n HL_n HA__n; clear hb1 hn hC_ hl_) | (go_at_call 21; (with_reducible refine (sameall_eq _ _ _ _ _ _ HCa.out HA_.out.reads.2.2 HOKX.out HLX.out).mono ?_); rintro e w1 ⟨rfl, hb1⟩; clear HCa; have G_n := Aside0.mk (G.out.below hb1); have HD_n := Aside0.mk (HD.out.below hb1); have HL_n := Aside0.mk (HL.out.below hb1); have HA__n := Aside0.mk (NL.below HA_.out hb1); clear G HD HL HA_; have G := G_n; have HD := HD_n; have HL := HL_n; have HA_ := HA__n; clear G_n HD_n HL_n HA__n; clear hb1))
            go_wp2
            go_roundw
            case rel => exact ⟨r + 1, _, _, W', R', _, _, _, _, rfl, rfl, by first | rfl | (rw [hwk]) | go_num, ⟨by have := HLT.out; omega⟩, G, HL, HD, ⟨HQ.out.more (by push_cast; omega)⟩, HA_, HLN, HALL⟩
            case measure =>
              have := HLT.out
              (try rw [hwk])
              show l.length - (intOf (.int .i64 ((r + 1 : Nat) : Int))).toNat < l.length - (intOf (.int .i64 (r : Int))).toNat
              simp only [intOf]; omega
          · have her1 : (er == (0 : Int)) = false := beq_eq_false_iff_ne.2 her
            obtain ⟨z1, z2⟩ := HA.out.no her
            subst z1; subst z2
            have hln : xs.length ≤ r + 1 := by have := HLN.out; omega
            clear HLN
            have HLN := Aside0.mk hln; clear hln
            go_upto_region 33 with (fail)
            clear her her1 LB
            have HEQ := Aside0.mk (show scanF W' 0 = xs from HQ.out.keep.rows.scan0.trans HALL.out.symm)
            have HOKX := Aside0.mk (show ∀ x ∈ xs, okE x by rw [← HEQ.out]; exact scan_ok _ _); have HLX := Aside0.mk (show xs.length ≤ 1000000 by have := HLN.out; have := HLG.out.1; have := HLT.out; omega)
            go_upto_region 35 with (first | (go_at_call 20; (with_reducible refine (scan_calls HL.out (HQ.out.fit HE.out) HQ.out.bd HQ.out.sgap 0).mono ?_); rintro e w1 ⟨v, rfl, hn, hb1⟩; rw [HEQ.out] at hn; obtain ⟨A_, c_, rfl, hl_, hC_⟩ := Kd.N_reads hn; have HCa := Aside0.mk hC_; have G_n := Aside0.mk (G.out.below hb1); have HD_n := Aside0.mk (HD.out.below hb1); have HL_n := Aside0.mk (HL.out.below hb1); have HA__n := Aside0.mk (NL.below HA_.out hb1); clear G HD HL HA_; have G := G_n; have HD := HD_n; have HL := HL_n; have HA_ := HA__n; clear G_n HD_n HL_n HA__n; clear hb1 hn hC_ hl_) | (go_at_call 21; (with_reducible refine (sameall_eq _ _ _ _ _ _ HCa.out HA_.out.reads.2.2 HOKX.out HLX.out).mono ?_); rintro e w1 ⟨rfl, hb1⟩; clear HCa; have G_n := Aside0.mk (G.out.below hb1); have HD_n := Aside0.mk (HD.out.below hb1); have HL_n := Aside0.mk (HL.out.below hb1); have HA__n := Aside0.mk (NL.below HA_.out hb1); clear G HD HL HA_; have G := G_n; have HD := HD_n; have HL := HL_n; have HA_ := HA__n; clear G_n HD_n HL_n HA__n; clear hb1))
            go_wp2
            go_roundw
            case rel => exact ⟨r + 1, _, _, W', R', _, _, _, _, rfl, rfl, by first | rfl | (rw [hwk]) | go_num, ⟨by have := HLT.out; omega⟩, G, HL, HD, ⟨HQ.out.more (by push_cast; omega)⟩, HA_, HLN, HALL⟩
            case measure =>
              have := HLT.out
              (try rw [hwk])
              show l.length - (intOf (.int .i64 ((r + 1 : Nat) : Int))).toNat < l.length - (intOf (.int .i64 (r : Int))).toNat
              simp only [intOf]; omega
        have hk1 : (o_.f0 == (1 : Int)) = false := beq_eq_false_iff_ne.2 hk
        by_cases hkb : o_.f0 = 2
        · have hk2 : (o_.f0 == (2 : Int)) = true := beq_iff_eq.2 hkb
          have HDS := Aside0.mk HQ.out.done_safe; have HDA := Aside0.mk HQ.out.done.2.2.1
          go_upto_region 33 with (go_at_call 16; (with_reducible refine (flush_calls HL.out HD.out HQ.out.ok (by decide) (HQ.out.fit HE.out) HQ.out.bd HQ.out.gap.1 HQ.out.gap.2).mono ?_); rintro e w1 ⟨rfl, c1, hf, hl, hd, ho⟩; obtain ⟨f1, f2, f3, f4⟩ := HQ.out.flush HE.out; rw [f1]; rw [f2] at hl; have G_n := Aside0.mk (G.out.step hf (by decide)); have HA__n := Aside0.mk (NL.keep HA_.out G.out hf (by decide) (by decide)); clear G HA_; have G := G_n; have HA_ := HA__n; clear G_n HA__n; clear HD HL HQ; have HD := Aside0.mk hd; have HL := Aside0.mk hl; have HQ := Aside0.mk f3; clear hl hd hf ho f1 f2 f3 f4)
          (try clear q0 q1 q2 q3 q4 q5 q6 q7 q8 q9 q10 q11 q12 q13)
          clear hk hk1 hkb hk2 LB
          rw [← HDA.out] at HALL
          have hln : xs.length ≤ r + 1 := by have := HLN.out; omega
          clear HLN
          have HLN := Aside0.mk hln; clear hln
          have HEQ := Aside0.mk (show scanF (doneW W) 0 = xs from HQ.out.keep.rows.scan0.trans HALL.out.symm)
          have HOKX := Aside0.mk (show ∀ x ∈ xs, okE x by rw [← HEQ.out]; exact scan_ok _ _); have HLX := Aside0.mk (show xs.length ≤ 1000000 by have := HLN.out; have := HLG.out.1; have := HLT.out; omega)
          go_upto_region 35 with (first | (go_at_call 20; (with_reducible refine (scan_calls HL.out (HQ.out.fit HE.out) HQ.out.bd HQ.out.sgap 0).mono ?_); rintro e w1 ⟨v, rfl, hn, hb1⟩; rw [HEQ.out] at hn; obtain ⟨A_, c_, rfl, hl_, hC_⟩ := Kd.N_reads hn; have HCa := Aside0.mk hC_; have G_n := Aside0.mk (G.out.below hb1); have HD_n := Aside0.mk (HD.out.below hb1); have HL_n := Aside0.mk (HL.out.below hb1); have HA__n := Aside0.mk (NL.below HA_.out hb1); clear G HD HL HA_; have G := G_n; have HD := HD_n; have HL := HL_n; have HA_ := HA__n; clear G_n HD_n HL_n HA__n; clear hb1 hn hC_ hl_) | (go_at_call 21; (with_reducible refine (sameall_eq _ _ _ _ _ _ HCa.out HA_.out.reads.2.2 HOKX.out HLX.out).mono ?_); rintro e w1 ⟨rfl, hb1⟩; clear HCa; have G_n := Aside0.mk (G.out.below hb1); have HD_n := Aside0.mk (HD.out.below hb1); have HL_n := Aside0.mk (HL.out.below hb1); have HA__n := Aside0.mk (NL.below HA_.out hb1); clear G HD HL HA_; have G := G_n; have HD := HD_n; have HL := HL_n; have HA_ := HA__n; clear G_n HD_n HL_n HA__n; clear hb1))
          go_wp2
          go_roundw
          case rel => exact ⟨r + 1, _, _, (doneW W), R, _, _, _, _, rfl, by rw [HDS.out, ← HDA.out, ← HALL.out], by first | rfl | (rw [hwk]) | go_num, ⟨by have := HLT.out; omega⟩, G, HL, HD, ⟨HQ.out.more (by push_cast; omega)⟩, HA_, HLN, HALL⟩
          case measure =>
            have := HLT.out
            (try rw [hwk])
            show l.length - (intOf (.int .i64 ((r + 1 : Nat) : Int))).toNat < l.length - (intOf (.int .i64 (r : Int))).toNat
            simp only [intOf]; omega
        have hk2 : (o_.f0 == (2 : Int)) = false := beq_eq_false_iff_ne.2 hkb
        by_cases hkc : o_.f0 = 3
        · have hk3 : (o_.f0 == (3 : Int)) = true := beq_iff_eq.2 hkc
          go_upto_region 33 with (fail)
          (try clear q0 q1 q2 q3 q4 q5 q6 q7 q8 q9 q10 q11 q12 q13)
          clear hk hk1 hkb hk2 hkc hk3 LB
          have hln : xs.length ≤ r + 1 := by have := HLN.out; omega
          clear HLN
          have HLN := Aside0.mk hln; clear hln
          have HEQ := Aside0.mk (show scanF W 0 = xs from HQ.out.keep.rows.scan0.trans HALL.out.symm)
          have HOKX := Aside0.mk (show ∀ x ∈ xs, okE x by rw [← HEQ.out]; exact scan_ok _ _); have HLX := Aside0.mk (show xs.length ≤ 1000000 by have := HLN.out; have := HLG.out.1; have := HLT.out; omega)
          go_upto_region 35 with (first | (go_at_call 20; (with_reducible refine (scan_calls HL.out (HQ.out.fit HE.out) HQ.out.bd HQ.out.sgap 0).mono ?_); rintro e w1 ⟨v, rfl, hn, hb1⟩; rw [HEQ.out] at hn; obtain ⟨A_, c_, rfl, hl_, hC_⟩ := Kd.N_reads hn; have HCa := Aside0.mk hC_; have G_n := Aside0.mk (G.out.below hb1); have HD_n := Aside0.mk (HD.out.below hb1); have HL_n := Aside0.mk (HL.out.below hb1); have HA__n := Aside0.mk (NL.below HA_.out hb1); clear G HD HL HA_; have G := G_n; have HD := HD_n; have HL := HL_n; have HA_ := HA__n; clear G_n HD_n HL_n HA__n; clear hb1 hn hC_ hl_) | (go_at_call 21; (with_reducible refine (sameall_eq _ _ _ _ _ _ HCa.out HA_.out.reads.2.2 HOKX.out HLX.out).mono ?_); rintro e w1 ⟨rfl, hb1⟩; clear HCa; have G_n := Aside0.mk (G.out.below hb1); have HD_n := Aside0.mk (HD.out.below hb1); have HL_n := Aside0.mk (HL.out.below hb1); have HA__n := Aside0.mk (NL.below HA_.out hb1); clear G HD HL HA_; have G := G_n; have HD := HD_n; have HL := HL_n; have HA_ := HA__n; clear G_n HD_n HL_n HA__n; clear hb1))
          go_wp2
          go_roundw
          case rel => exact ⟨r + 1, _, _, W, R, _, _, _, _, rfl, rfl, by first | rfl | (rw [hwk]) | go_num, ⟨by have := HLT.out; omega⟩, G, HL, HD, ⟨HQ.out.more (by push_cast; omega)⟩, HA_, HLN, HALL⟩
          case measure =>
            have := HLT.out
            (try rw [hwk])
            show l.length - (intOf (.int .i64 ((r + 1 : Nat) : Int))).toNat < l.length - (intOf (.int .i64 (r : Int))).toNat
            simp only [intOf]; omega
        have hk3 : (o_.f0 == (3 : Int)) = false := beq_eq_false_iff_ne.2 hkc
        have hkf : wrap64 ((IntKind.u64.wrap o_.f1).tmod 12) < 9223372036854775808 := by have := Lv.mod_ok 12 o_.f1 (by decide) (by decide); omega
        have HOKF := Aside0.mk (ok_arm HQ.out.ok (wrap64 ((IntKind.u64.wrap o_.f1).tmod 12)) hkf)
        clear hkf
        obtain ⟨er, T, R2, e2, f1, f2, f3, f4, ⟨t, f5⟩, f6, f7, f8, f9, f10⟩ := HQ.out.crash HE3.out (max (wrap64 ((IntKind.u64.wrap o_.f1).tmod 12)) (-1)) o_.f3.length (fun j => (o_.f3.getD j 0).toNat)
        have HER := Aside0.mk f1; have HCD := Aside0.mk f3; have HQ2 := Aside0.mk f4; have HLAT := Aside0.mk f9; have HLI := Aside0.mk f10
        clear f1 f3 f4 f9 f10
        have hxs : xs = allR (openW ⟨T, [], false, -1⟩ 0 (N : Int) 1) R2 ++ t := by rw [HALL.out]; exact f5
        have HXS := Aside0.mk hxs; clear hxs
        clear f5
        rw [← HALL.out] at f6
        have HF6 := Aside0.mk f6; have HF7 := Aside0.mk f7; have HS8 := Aside0.mk f8; have HF2 := Aside0.mk f2; clear f6 f7 f8 f2
        go_upto_region 13 with (go_at_call 17; (with_reducible refine (arm_o HD.out (wrap64 ((IntKind.u64.wrap o_.f1).tmod 12))).mono ?_); rintro e w1 ⟨rfl, c1, hf, hd⟩; have G_n := Aside0.mk (G.out.step hf (by decide)); have HL_n := Aside0.mk (HL.out.keep hf (by decide)); have HA__n := Aside0.mk (NL.keep HA_.out G.out hf (by decide) (by decide)); have LB_n := Aside0.mk (LB.out.keep hf (by decide)); clear G HL HA_ LB; have G := G_n; have HL := HL_n; have HA_ := HA__n; have LB := LB_n; clear G_n HL_n HA__n LB_n; clear HD; have HD := Aside0.mk hd; clear hd hf)
        (try clear q0 q1 q2 q3 q4 q5 q6 q7 q8 q9 q10 q11 q12 q13)
        clear hk hk1 hkb hk2 hkc hk3
        have HYN := Aside0.mk (show (allR (openW ⟨T, [], false, -1⟩ 0 (N : Int) 1) R2).length ≤ xs.length by rw [HXS.out, List.length_append]; exact Nat.le_add_right _ _)
        have HTK := Aside0.mk (show xs.take (allR (openW ⟨T, [], false, -1⟩ 0 (N : Int) 1) R2).length = allR (openW ⟨T, [], false, -1⟩ 0 (N : Int) 1) R2 by rw [HXS.out, List.take_left'] ; rfl)
        have HSC := Aside0.mk (show scanF (openW ⟨T, [], false, -1⟩ 0 (N : Int) 1) 0 = allR (openW ⟨T, [], false, -1⟩ 0 (N : Int) 1) R2 from HQ2.out.keep.rows.scan0)
        have HCP := Aside0.mk HA_.out.reads.2.1
        rcases HF2.out with hz | hz
        · skip
          subst hz
          have HF8 := Aside0.mk (HF6.out rfl)
          clear HF6
          have HF6 := HF8
          clear HF8 HF2
          go_upto_region 15 with (go_at_call 16; (with_reducible refine (flush_calls HL.out HD.out HOKF.out (by decide) (HQ.out.fit HE.out) HQ.out.bd HQ.out.gap.1 HQ.out.gap.2).mono ?_); rintro e w1 ⟨rfl, c1, hf, hl, hd, ho⟩; rw [HER.out]; have G_n := Aside0.mk (G.out.step hf (by decide)); have HA__n := Aside0.mk (NL.keep HA_.out G.out hf (by decide) (by decide)); have LB_n := Aside0.mk (LB.out.keep hf (by decide)); clear G HA_ LB; have G := G_n; have HA_ := HA__n; have LB := LB_n; clear G_n HA__n LB_n; clear HD HL; have HD := Aside0.mk hd; have HOC := Aside0.mk ho.ok; clear hl hd hf ho)
          have hcs := LB.out.blk
          have q0 : w1.cell? ⟨ob, 0, none⟩ = some (.int .i64 o_.f0) := blk_cell hcs 0
          have q1 : w1.cell? ⟨ob, 1, none⟩ = some (.int .i64 o_.f1) := blk_cell hcs 1
          have q2 : w1.cell? ⟨ob, 2, none⟩ = some (.int .i64 o_.f2.f0) := blk_cell hcs 2
          have q3 : w1.cell? ⟨ob, 3, none⟩ = some (.int .i64 o_.f2.f1) := blk_cell hcs 3
          have q4 : w1.cell? ⟨ob, 4, none⟩ = some (.int .i64 o_.f2.f2) := blk_cell hcs 4
          have q5 : w1.cell? ⟨ob, 5, none⟩ = some (.int .i64 o_.f2.f3) := blk_cell hcs 5
          have q6 : w1.cell? ⟨ob, 6, none⟩ = some (.int .i64 o_.f2.f4) := blk_cell hcs 6
          have q7 : w1.cell? ⟨ob, 7, none⟩ = some (.int .i64 o_.f2.f5) := blk_cell hcs 7
          have q8 : w1.cell? ⟨ob, 8, none⟩ = some (.int .i64 o_.f2.f6) := blk_cell hcs 8
          have q9 : w1.cell? ⟨ob, 9, none⟩ = some (.string o_.f2.f7) := blk_cell hcs 9
          have q10 : w1.cell? ⟨ob, 10, none⟩ = some (.string o_.f2.f8) := blk_cell hcs 10
          have q11 : w1.cell? ⟨ob, 11, none⟩ = some (.slice A11 o_.f2.f9.length c11) := blk_cell hcs 11
          have q12 : w1.cell? ⟨ob, 12, none⟩ = some (.slice A12 o_.f2.f10.length c12) := blk_cell hcs 12
          have q13 : w1.cell? ⟨ob, 13, none⟩ = some (.slice A13 o_.f3.length c13) := blk_cell hcs 13
          clear hcs
          go_upto_region 16 with (go_at_call 18; (with_reducible refine (crash_o HD.out HOC.out (pk_old G.out H13.out HOP.out) (Lv.pk_lt HOP.out)).mono ?_); rintro e w1 ⟨rfl, c1, hf, hd⟩; rw [HCD.out] at hd; have G_n := Aside0.mk (G.out.step hf (by decide)); have HA__n := Aside0.mk (NL.keep HA_.out G.out hf (by decide) (by decide)); clear G HA_; have G := G_n; have HA_ := HA__n; clear G_n HA__n; clear HD LB; have HD := Aside0.mk hd; clear hd hf)
          (try clear q0 q1 q2 q3 q4 q5 q6 q7 q8 q9 q10 q11 q12 q13)
          go_upto_region 17 with (go_at_call 19; (with_reducible refine (lopen_calls HD.out HQ2.out.ok 0 (N : Int) 1 (by decide) HNc.out HLI.out (by decide) HQ2.out.gone HLAT.out).mono ?_); rintro e w1 ⟨gl2, m2, c1, rfl, hf, hl, hd⟩; have G_n := Aside0.mk (G.out.step hf (by decide)); have HA__n := Aside0.mk (NL.keep HA_.out G.out hf (by decide) (by decide)); clear G HA_; have G := G_n; have HA_ := HA__n; clear G_n HA__n; clear HD; have HD := Aside0.mk hd; have HL := Aside0.mk hl; clear hl hd hf)
          clear HQ
          go_upto_region 20 with (go_at_call 20; (with_reducible refine (scan_calls HL.out (HQ2.out.fit HE2.out) HQ2.out.bd HQ2.out.sgap 0).mono ?_); rintro e w1 ⟨v, rfl, hn, hb1⟩; rw [HSC.out] at hn; obtain ⟨A_, c_, rfl⟩ := Kd.N_slice hn; have G_n := Aside0.mk (G.out.below hb1); have HD_n := Aside0.mk (HD.out.below hb1); have HL_n := Aside0.mk (HL.out.below hb1); have HA__n := Aside0.mk (NL.below HA_.out hb1); clear G HD HL HA_; have G := G_n; have HD := HD_n; have HL := HL_n; have HA_ := HA__n; clear G_n HD_n HL_n HA__n; clear hb1 hn)
          have w1_ : decide ((((allR (openW ⟨T, [], false, -1⟩ 0 (N : Int) 1) R2).length : Nat) : Int) < (xs.length : Int)) = false := decide_eq_false (by rw [HF6.out]; omega)
          have w2_ : ((((allR (openW ⟨T, [], false, -1⟩ 0 (N : Int) 1) R2).length : Nat) : Int) < (xs.length : Int)) = False := eq_false (by rw [HF6.out]; omega)
          have w3_ : decide ((xs.length : Int) < (((allR (openW ⟨T, [], false, -1⟩ 0 (N : Int) 1) R2).length : Nat) : Int)) = false := decide_eq_false (by have := HYN.out; omega)
          have w4_ : ((xs.length : Int) < (((allR (openW ⟨T, [], false, -1⟩ 0 (N : Int) 1) R2).length : Nat) : Int)) = False := eq_false (by have := HYN.out; omega)
          have hta := Kd.N_take (m := (allR (openW ⟨T, [], false, -1⟩ 0 (N : Int) 1) R2).length) HA_.out HYN.out
          rw [HTK.out] at hta
          have w5_ : (((allR (openW ⟨T, [], false, -1⟩ 0 (N : Int) 1) R2).length : Nat) : Int) ≤ (cpa : Int) := by have := HCP.out; have := HYN.out; omega
          have w6_ : (0 : Int) ≤ (((allR (openW ⟨T, [], false, -1⟩ 0 (N : Int) 1) R2).length : Nat) : Int) := by omega
          have w7_ : (allR (openW ⟨T, [], false, -1⟩ 0 (N : Int) 1) R2).length ≤ cpa := by omega
          have HHTA := Aside0.mk hta; clear hta
          generalize openW ⟨T, [], false, -1⟩ 0 (N : Int) 1 = W2 at *
          generalize hys : allR W2 R2 = ys at *
          go_upto_region 33 with (fail)
          clear w1_ w2_ w3_ w4_ w5_ w6_ w7_ HA_
          have HA_ := Aside0.mk (show NL k44 44 w.heap.size _ _ 5 (.slice Aa ys.length cpa) ys from HHTA.out)
          clear HHTA HXS
          have hln : ys.length ≤ r + 1 := by have := HYN.out; have := HLN.out; omega
          clear HLN HALL
          have HLN := Aside0.mk hln; have HALL := Aside0.mk hys.symm
          clear hln hys
          have HQ := HQ2
          clear HQ2
          have HEQ := Aside0.mk (show scanF W2 0 = ys from HQ.out.keep.rows.scan0.trans HALL.out.symm)
          have HOKX := Aside0.mk (show ∀ x ∈ ys, okE x by rw [← HEQ.out]; exact scan_ok _ _); have HLX := Aside0.mk (show ys.length ≤ 1000000 by have := HLN.out; have := HLG.out.1; have := HLT.out; omega)
          go_upto_region 35 with (first | (go_at_call 20; (with_reducible refine (scan_calls HL.out (HQ.out.fit HE2.out) HQ.out.bd HQ.out.sgap 0).mono ?_); rintro e w1 ⟨v, rfl, hn, hb1⟩; rw [HEQ.out] at hn; obtain ⟨A_, c_, rfl, hl_, hC_⟩ := Kd.N_reads hn; have HCa := Aside0.mk hC_; have G_n := Aside0.mk (G.out.below hb1); have HD_n := Aside0.mk (HD.out.below hb1); have HL_n := Aside0.mk (HL.out.below hb1); have HA__n := Aside0.mk (NL.below HA_.out hb1); clear G HD HL HA_; have G := G_n; have HD := HD_n; have HL := HL_n; have HA_ := HA__n; clear G_n HD_n HL_n HA__n; clear hb1 hn hC_ hl_) | (go_at_call 21; (with_reducible refine (sameall_eq _ _ _ _ _ _ HCa.out HA_.out.reads.2.2 HOKX.out HLX.out).mono ?_); rintro e w1 ⟨rfl, hb1⟩; clear HCa; have G_n := Aside0.mk (G.out.below hb1); have HD_n := Aside0.mk (HD.out.below hb1); have HL_n := Aside0.mk (HL.out.below hb1); have HA__n := Aside0.mk (NL.below HA_.out hb1); clear G HD HL HA_; have G := G_n; have HD := HD_n; have HL := HL_n; have HA_ := HA__n; clear G_n HD_n HL_n HA__n; clear hb1))
          go_wp2
          go_roundw
          case rel => exact ⟨r + 1, _, _, W2, R2, _, _, _, _, rfl, by rw [HS8.out], by first | rfl | (rw [hwk]) | go_num, ⟨by have := HLT.out; omega⟩, G, HL, HD, ⟨HQ.out.more (by push_cast; omega)⟩, HA_, HLN, HALL⟩
          case measure =>
            have := HLT.out
            (try rw [hwk])
            show l.length - (intOf (.int .i64 ((r + 1 : Nat) : Int))).toNat < l.length - (intOf (.int .i64 (r : Int))).toNat
            simp only [intOf]; omega
        · skip
          subst hz
          clear HF6 HF2
          go_upto_region 15 with (go_at_call 16; (with_reducible refine (flush_calls HL.out HD.out HOKF.out (by decide) (HQ.out.fit HE.out) HQ.out.bd HQ.out.gap.1 HQ.out.gap.2).mono ?_); rintro e w1 ⟨rfl, c1, hf, hl, hd, ho⟩; rw [HER.out]; have G_n := Aside0.mk (G.out.step hf (by decide)); have HA__n := Aside0.mk (NL.keep HA_.out G.out hf (by decide) (by decide)); have LB_n := Aside0.mk (LB.out.keep hf (by decide)); clear G HA_ LB; have G := G_n; have HA_ := HA__n; have LB := LB_n; clear G_n HA__n LB_n; clear HD HL; have HD := Aside0.mk hd; have HOC := Aside0.mk ho.ok; clear hl hd hf ho)
          have hcs := LB.out.blk
          have q0 : w1.cell? ⟨ob, 0, none⟩ = some (.int .i64 o_.f0) := blk_cell hcs 0
          have q1 : w1.cell? ⟨ob, 1, none⟩ = some (.int .i64 o_.f1) := blk_cell hcs 1
          have q2 : w1.cell? ⟨ob, 2, none⟩ = some (.int .i64 o_.f2.f0) := blk_cell hcs 2
          have q3 : w1.cell? ⟨ob, 3, none⟩ = some (.int .i64 o_.f2.f1) := blk_cell hcs 3
          have q4 : w1.cell? ⟨ob, 4, none⟩ = some (.int .i64 o_.f2.f2) := blk_cell hcs 4
          have q5 : w1.cell? ⟨ob, 5, none⟩ = some (.int .i64 o_.f2.f3) := blk_cell hcs 5
          have q6 : w1.cell? ⟨ob, 6, none⟩ = some (.int .i64 o_.f2.f4) := blk_cell hcs 6
          have q7 : w1.cell? ⟨ob, 7, none⟩ = some (.int .i64 o_.f2.f5) := blk_cell hcs 7
          have q8 : w1.cell? ⟨ob, 8, none⟩ = some (.int .i64 o_.f2.f6) := blk_cell hcs 8
          have q9 : w1.cell? ⟨ob, 9, none⟩ = some (.string o_.f2.f7) := blk_cell hcs 9
          have q10 : w1.cell? ⟨ob, 10, none⟩ = some (.string o_.f2.f8) := blk_cell hcs 10
          have q11 : w1.cell? ⟨ob, 11, none⟩ = some (.slice A11 o_.f2.f9.length c11) := blk_cell hcs 11
          have q12 : w1.cell? ⟨ob, 12, none⟩ = some (.slice A12 o_.f2.f10.length c12) := blk_cell hcs 12
          have q13 : w1.cell? ⟨ob, 13, none⟩ = some (.slice A13 o_.f3.length c13) := blk_cell hcs 13
          clear hcs
          go_upto_region 16 with (go_at_call 18; (with_reducible refine (crash_o HD.out HOC.out (pk_old G.out H13.out HOP.out) (Lv.pk_lt HOP.out)).mono ?_); rintro e w1 ⟨rfl, c1, hf, hd⟩; rw [HCD.out] at hd; have G_n := Aside0.mk (G.out.step hf (by decide)); have HA__n := Aside0.mk (NL.keep HA_.out G.out hf (by decide) (by decide)); clear G HA_; have G := G_n; have HA_ := HA__n; clear G_n HA__n; clear HD LB; have HD := Aside0.mk hd; clear hd hf)
          (try clear q0 q1 q2 q3 q4 q5 q6 q7 q8 q9 q10 q11 q12 q13)
          go_upto_region 17 with (go_at_call 19; (with_reducible refine (lopen_calls HD.out HQ2.out.ok 0 (N : Int) 1 (by decide) HNc.out HLI.out (by decide) HQ2.out.gone HLAT.out).mono ?_); rintro e w1 ⟨gl2, m2, c1, rfl, hf, hl, hd⟩; have G_n := Aside0.mk (G.out.step hf (by decide)); have HA__n := Aside0.mk (NL.keep HA_.out G.out hf (by decide) (by decide)); clear G HA_; have G := G_n; have HA_ := HA__n; clear G_n HA__n; clear HD; have HD := Aside0.mk hd; have HL := Aside0.mk hl; clear hl hd hf)
          clear HQ
          go_upto_region 20 with (go_at_call 20; (with_reducible refine (scan_calls HL.out (HQ2.out.fit HE2.out) HQ2.out.bd HQ2.out.sgap 0).mono ?_); rintro e w1 ⟨v, rfl, hn, hb1⟩; rw [HSC.out] at hn; obtain ⟨A_, c_, rfl⟩ := Kd.N_slice hn; have G_n := Aside0.mk (G.out.below hb1); have HD_n := Aside0.mk (HD.out.below hb1); have HL_n := Aside0.mk (HL.out.below hb1); have HA__n := Aside0.mk (NL.below HA_.out hb1); clear G HD HL HA_; have G := G_n; have HD := HD_n; have HL := HL_n; have HA_ := HA__n; clear G_n HD_n HL_n HA__n; clear hb1 hn)
          have w1_ : decide ((((allR (openW ⟨T, [], false, -1⟩ 0 (N : Int) 1) R2).length : Nat) : Int) < ((safeL W R).length : Int)) = false := decide_eq_false (by have := HF7.out; omega)
          have w2_ : ((((allR (openW ⟨T, [], false, -1⟩ 0 (N : Int) 1) R2).length : Nat) : Int) < ((safeL W R).length : Int)) = False := eq_false (by have := HF7.out; omega)
          have w3_ : decide ((xs.length : Int) < (((allR (openW ⟨T, [], false, -1⟩ 0 (N : Int) 1) R2).length : Nat) : Int)) = false := decide_eq_false (by have := HYN.out; omega)
          have w4_ : ((xs.length : Int) < (((allR (openW ⟨T, [], false, -1⟩ 0 (N : Int) 1) R2).length : Nat) : Int)) = False := eq_false (by have := HYN.out; omega)
          have hta := Kd.N_take (m := (allR (openW ⟨T, [], false, -1⟩ 0 (N : Int) 1) R2).length) HA_.out HYN.out
          rw [HTK.out] at hta
          have w5_ : (((allR (openW ⟨T, [], false, -1⟩ 0 (N : Int) 1) R2).length : Nat) : Int) ≤ (cpa : Int) := by have := HCP.out; have := HYN.out; omega
          have w6_ : (0 : Int) ≤ (((allR (openW ⟨T, [], false, -1⟩ 0 (N : Int) 1) R2).length : Nat) : Int) := by omega
          have w7_ : (allR (openW ⟨T, [], false, -1⟩ 0 (N : Int) 1) R2).length ≤ cpa := by omega
          have HHTA := Aside0.mk hta; clear hta
          generalize openW ⟨T, [], false, -1⟩ 0 (N : Int) 1 = W2 at *
          generalize hys : allR W2 R2 = ys at *
          go_upto_region 33 with (fail)
          clear w1_ w2_ w3_ w4_ w5_ w6_ w7_ HA_
          have HA_ := Aside0.mk (show NL k44 44 w.heap.size _ _ 5 (.slice Aa ys.length cpa) ys from HHTA.out)
          clear HHTA HXS
          have hln : ys.length ≤ r + 1 := by have := HYN.out; have := HLN.out; omega
          clear HLN HALL
          have HLN := Aside0.mk hln; have HALL := Aside0.mk hys.symm
          clear hln hys
          have HQ := HQ2
          clear HQ2
          have HEQ := Aside0.mk (show scanF W2 0 = ys from HQ.out.keep.rows.scan0.trans HALL.out.symm)
          have HOKX := Aside0.mk (show ∀ x ∈ ys, okE x by rw [← HEQ.out]; exact scan_ok _ _); have HLX := Aside0.mk (show ys.length ≤ 1000000 by have := HLN.out; have := HLG.out.1; have := HLT.out; omega)
          go_upto_region 35 with (first | (go_at_call 20; (with_reducible refine (scan_calls HL.out (HQ.out.fit HE2.out) HQ.out.bd HQ.out.sgap 0).mono ?_); rintro e w1 ⟨v, rfl, hn, hb1⟩; rw [HEQ.out] at hn; obtain ⟨A_, c_, rfl, hl_, hC_⟩ := Kd.N_reads hn; have HCa := Aside0.mk hC_; have G_n := Aside0.mk (G.out.below hb1); have HD_n := Aside0.mk (HD.out.below hb1); have HL_n := Aside0.mk (HL.out.below hb1); have HA__n := Aside0.mk (NL.below HA_.out hb1); clear G HD HL HA_; have G := G_n; have HD := HD_n; have HL := HL_n; have HA_ := HA__n; clear G_n HD_n HL_n HA__n; clear hb1 hn hC_ hl_) | (go_at_call 21; (with_reducible refine (sameall_eq _ _ _ _ _ _ HCa.out HA_.out.reads.2.2 HOKX.out HLX.out).mono ?_); rintro e w1 ⟨rfl, hb1⟩; clear HCa; have G_n := Aside0.mk (G.out.below hb1); have HD_n := Aside0.mk (HD.out.below hb1); have HL_n := Aside0.mk (HL.out.below hb1); have HA__n := Aside0.mk (NL.below HA_.out hb1); clear G HD HL HA_; have G := G_n; have HD := HD_n; have HL := HL_n; have HA_ := HA__n; clear G_n HD_n HL_n HA__n; clear hb1))
          go_wp2
          go_roundw
          case rel => exact ⟨r + 1, _, _, W2, R2, _, _, _, _, rfl, by rw [HS8.out], by first | rfl | (rw [hwk]) | go_num, ⟨by have := HLT.out; omega⟩, G, HL, HD, ⟨HQ.out.more (by push_cast; omega)⟩, HA_, HLN, HALL⟩
          case measure =>
            have := HLT.out
            (try rw [hwk])
            show l.length - (intOf (.int .i64 ((r + 1 : Nat) : Int))).toNat < l.length - (intOf (.int .i64 (r : Int))).toNat
            simp only [intOf]; omega
      · obtain rfl : r = l.length := by have := HRL.out; omega
        clear hlt
        go_wp2
        go_ret
        exact ⟨rfl, G.out.bel⟩
open Classical in
noncomputable def careenlaw05_WalKeeps.f (a0 : Int) (l1 : List S40) : Option Bool := if OkOps l1 then some true else none
theorem careenlaw05_WalKeeps.calls (a0 : Int) (A1 : Option Addr) (c1 : Nat) (l1 : List S40) (r : Bool) (w : World) (hr1 : Kd.C k40 w A1 l1.length l1) (hc1 : l1.length ≤ c1) (h : careenlaw05_WalKeeps.f a0 l1 = some r) :
    Calls Try.prog 3 #[.int .i64 a0, .slice A1 l1.length c1] w fun e w' => e = .returned (.bool r) ∧ Below w.heap.size w w' := by
  unfold careenlaw05_WalKeeps.f at h
  by_cases ho : OkOps l1
  · rw [if_pos ho] at h
    obtain rfl := Option.some.inj h
    exact keeps_walk a0 A1 c1 l1 w hr1 hc1 ho
  · rw [if_neg ho] at h
    cases h
end Go.Proofs.Ytbnglmeljbiglaa.X4
