import Derived.Test.YtneilimiijcghaaQLZ0
import Derived.Test.YtneilimiijcghaaQLZ1
import Derived.Test.YtneilimiijcghaaQLZ2
import Derived.Test.YtneilimiijcghaaQLZ3
import Derived.Test.YtneilimiijcghaaQLZ4
import Derived.Test.YtneilimiijcghaaQLZ5
import Derived.Test.YtneilimiijcghaaQLZ6
import Derived.Test.YtneilimiijcghaaQLZ7
import Derived.Test.YtneilimiijcghaaQLZ8
import Derived.Test.YtneilimiijcghaaQLZ9
import Derived.Test.YtneilimiijcghaaQLZ10
namespace Go.Proofs.Ytneilimiijcghaa.X12
open Go Go.RowKit Go.ChangeMaps Go.Proofs.Ytneilimiijcghaa.Arr Go.Proofs.Ytneilimiijcghaa.Mp Go.Proofs.Ytneilimiijcghaa.Ow Go.Proofs.Ytneilimiijcghaa.Dk Go.Proofs.Ytneilimiijcghaa.Fr Go.Proofs.Ytneilimiijcghaa.St Go.Proofs.YtneilimiijcghaaW.PrintWords Go.Proofs.YtneilimiijcghaaW.PrintLast Go.Proofs.YtneilimiijcghaaW.PrintMore
set_option linter.unusedVariables false
set_option linter.unusedSimpArgs false
attribute [local go_sem high] eqA34
set_option maxHeartbeats 16000000 in
set_option maxRecDepth 20000 in
theorem last_walk (A0 : Option Addr) (c0 : Nat) (l : List S39) (i j pa : Int) (pb : ByteArray) (w : World) (hr : Kd.C k39 w A0 l.length l) (hc0 : l.length ≤ c0) (ho : OkOps l) : Calls Try.prog 4 #[.slice A0 l.length c0, .int .i64 i, .int .i64 j, .agg #[.int .i64 pa, .string pb]] w fun e w' => e = .returned (.bool true) ∧ Below w.heap.size w w' := by
  have hm := Kd.C_max hr
  have HR := Aside0.mk hr; have HC0 := Aside0.mk hc0; have HOPS := Aside0.mk ho
  clear hr hc0 ho
  have hsec : ∀ w, Calls Try.prog 18 #[.int .i64 4] w fun e w' => e = .returned (.int .i64 11) ∧ Below w.heap.size w w' := fun w => sectors_calls 4 (by decide) w
  have hnew : ∀ {w0 w : World} {c : Nat → Nat} (_ : Gr w0 w c), Calls Try.prog 7 #[.int .i64 11] w fun e w' => ∃ g, e = .returned (.tuple #[.pointer (some ⟨g, 0, none⟩), .int .i64 0]) ∧ DK w' (Col (Dk.paint c w.heap.size 1) 1) g (newD 11) ∧ Fr [] w c w' (Dk.paint c w.heap.size 1) := fun {_ w c} _ => newdisk 11 (by decide) (by decide) w c
  have HNO := Aside0.mk (show newOk (newD 11) 0 4 by unfold newOk; decide +kernel)
  have G := Aside0.mk (Gr.refl w)
  go_enter Try.func4, Try.ntmps4
  go_upto_region 1 with (fail)
  have hf := fr_alloc [] w (fun _ => 0) 3 (.cells #[.int .i64 pa, .string pb] 34)
  have G_n := Aside0.mk (G.out.step hf (by decide)); clear G; have G := G_n; clear G_n
  have LP := Aside0.mk (loc_alloc w (fun _ => 0) 3 #[.int .i64 pa, .string pb] 34)
  clear hf
  generalize Dk.paint (fun _ => 0) w.heap.size 3 = cLP at *
  generalize w.alloc (.cells #[.int .i64 pa, .string pb] 34) = W0 at *
  go_upto_region 2 with (first | (go_at_call 18; (with_reducible refine (hsec _).mono ?_); rintro e w1 ⟨rfl, hb1⟩; have G_n := Aside0.mk (G.out.below hb1); have LP_n := Aside0.mk (LP.out.below hb1); clear G LP; have G := G_n; have LP := LP_n; clear G_n LP_n; clear hb1) | (go_at_call 7; (with_reducible refine (hnew G.out).mono ?_); rintro e w1 ⟨g, rfl, hk, hf⟩; have G_n := Aside0.mk (G.out.step hf (by decide)); have LP_n := Aside0.mk (LP.out.keep hf (by decide)); clear G LP; have G := G_n; have LP := LP_n; clear G_n LP_n; have HD := Aside0.mk hk; clear hk hf))
  go_upto_region 3 with (go_at_call 8; (with_reducible refine (new_o HD.out (ok_new 11 (by decide)) (by decide) HNO.out).mono ?_); rintro e w1 ⟨gs, c1, rfl, hf, hs⟩; have G_n := Aside0.mk (G.out.step hf (by decide)); have LP_n := Aside0.mk (LP.out.keep hf (by decide)); clear G LP; have G := G_n; have LP := LP_n; clear G_n LP_n; have HS := Aside0.mk hs; clear hs hf HD)
  have hi := Lv.mod_ok 4 i (by decide) (by decide)
  have hj := Lv.mod_ok 4 j (by decide) (by decide)
  go_upto_region 4 with (fail)
  generalize wrap64 ((IntKind.u64.wrap i).tmod 4) = i' at *
  generalize wrap64 ((IntKind.u64.wrap j).tmod 4) = j' at *
  have HI := Aside0.mk hi; have HJ := Aside0.mk hj
  clear hi hj
  have p0 : w1.cell? ⟨w.heap.size, 0, none⟩ = some (.int .i64 pa) := blk_cell LP.out.blk 0; have p1 : w1.cell? ⟨w.heap.size, 1, none⟩ = some (.string pb) := blk_cell LP.out.blk 1
  cases hlg : longF l with
  | true =>
    go_wp2_with (first | (go_at_call 9; (with_reducible refine (awake_calls _).mono ?_); rintro e w1 ⟨rfl, hb1⟩; have G_n := Aside0.mk (G.out.below hb1); have LP_n := Aside0.mk (LP.out.below hb1); have HS_n := Aside0.mk (HS.out.below hb1); clear G LP HS; have G := G_n; have LP := LP_n; have HS := HS_n; clear G_n LP_n HS_n; clear hb1; (try clear p0 p1); have p0 : w1.cell? ⟨w.heap.size, 0, none⟩ = some (.int .i64 pa) := blk_cell LP.out.blk 0; have p1 : w1.cell? ⟨w.heap.size, 1, none⟩ = some (.string pb) := blk_cell LP.out.blk 1) | (go_at_call 10; (with_reducible refine (long_calls _ _ _ _ (Kd.C_below HR.out G.out.bel) HC0.out).mono ?_); rintro e w1 ⟨rfl, hb1⟩; have G_n := Aside0.mk (G.out.below hb1); have LP_n := Aside0.mk (LP.out.below hb1); have HS_n := Aside0.mk (HS.out.below hb1); clear G LP HS; have G := G_n; have LP := LP_n; have HS := HS_n; clear G_n LP_n HS_n; clear hb1; (try clear p0 p1); have p0 : w1.cell? ⟨w.heap.size, 0, none⟩ = some (.int .i64 pa) := blk_cell LP.out.blk 0; have p1 : w1.cell? ⟨w.heap.size, 1, none⟩ = some (.string pb) := blk_cell LP.out.blk 1) | (go_at_call 12; (with_reducible refine (right_calls _ _ _).mono ?_); rintro e w1 ⟨rfl, hb1⟩; have G_n := Aside0.mk (G.out.below hb1); have LP_n := Aside0.mk (LP.out.below hb1); have HS_n := Aside0.mk (HS.out.below hb1); clear G LP HS; have G := G_n; have LP := LP_n; have HS := HS_n; clear G_n LP_n HS_n; clear hb1; (try clear p0 p1); have p0 : w1.cell? ⟨w.heap.size, 0, none⟩ = some (.int .i64 pa) := blk_cell LP.out.blk 0; have p1 : w1.cell? ⟨w.heap.size, 1, none⟩ = some (.string pb) := blk_cell LP.out.blk 1))
    go_ret
    exact ⟨rfl, G.out.bel⟩
  | false =>
    have HL200 := Aside0.mk (show l.length ≤ 200 from by
      have := hlg
      unfold longF at this
      simp only [Bool.or_eq_false_iff, decide_eq_false_iff_not] at this
      omega)
    by_cases hsz : (500 : Int) < (pb.size : Int)
    · skip
      go_wp2_with (first | (go_at_call 9; (with_reducible refine (awake_calls _).mono ?_); rintro e w1 ⟨rfl, hb1⟩; have G_n := Aside0.mk (G.out.below hb1); have LP_n := Aside0.mk (LP.out.below hb1); have HS_n := Aside0.mk (HS.out.below hb1); clear G LP HS; have G := G_n; have LP := LP_n; have HS := HS_n; clear G_n LP_n HS_n; clear hb1; (try clear p0 p1); have p0 : w1.cell? ⟨w.heap.size, 0, none⟩ = some (.int .i64 pa) := blk_cell LP.out.blk 0; have p1 : w1.cell? ⟨w.heap.size, 1, none⟩ = some (.string pb) := blk_cell LP.out.blk 1) | (go_at_call 10; (with_reducible refine (long_calls _ _ _ _ (Kd.C_below HR.out G.out.bel) HC0.out).mono ?_); rintro e w1 ⟨rfl, hb1⟩; have G_n := Aside0.mk (G.out.below hb1); have LP_n := Aside0.mk (LP.out.below hb1); have HS_n := Aside0.mk (HS.out.below hb1); clear G LP HS; have G := G_n; have LP := LP_n; have HS := HS_n; clear G_n LP_n HS_n; clear hb1; (try clear p0 p1); have p0 : w1.cell? ⟨w.heap.size, 0, none⟩ = some (.int .i64 pa) := blk_cell LP.out.blk 0; have p1 : w1.cell? ⟨w.heap.size, 1, none⟩ = some (.string pb) := blk_cell LP.out.blk 1) | (go_at_call 12; (with_reducible refine (right_calls _ _ _).mono ?_); rintro e w1 ⟨rfl, hb1⟩; have G_n := Aside0.mk (G.out.below hb1); have LP_n := Aside0.mk (LP.out.below hb1); have HS_n := Aside0.mk (HS.out.below hb1); clear G LP HS; have G := G_n; have LP := LP_n; have HS := HS_n; clear G_n LP_n HS_n; clear hb1; (try clear p0 p1); have p0 : w1.cell? ⟨w.heap.size, 0, none⟩ = some (.int .i64 pa) := blk_cell LP.out.blk 0; have p1 : w1.cell? ⟨w.heap.size, 1, none⟩ = some (.string pb) := blk_cell LP.out.blk 1))
      go_ret
      exact ⟨rfl, G.out.bel⟩
    cases hrt : rightP pa pb with
    | false =>
      go_wp2_with (first | (go_at_call 9; (with_reducible refine (awake_calls _).mono ?_); rintro e w1 ⟨rfl, hb1⟩; have G_n := Aside0.mk (G.out.below hb1); have LP_n := Aside0.mk (LP.out.below hb1); have HS_n := Aside0.mk (HS.out.below hb1); clear G LP HS; have G := G_n; have LP := LP_n; have HS := HS_n; clear G_n LP_n HS_n; clear hb1; (try clear p0 p1); have p0 : w1.cell? ⟨w.heap.size, 0, none⟩ = some (.int .i64 pa) := blk_cell LP.out.blk 0; have p1 : w1.cell? ⟨w.heap.size, 1, none⟩ = some (.string pb) := blk_cell LP.out.blk 1) | (go_at_call 10; (with_reducible refine (long_calls _ _ _ _ (Kd.C_below HR.out G.out.bel) HC0.out).mono ?_); rintro e w1 ⟨rfl, hb1⟩; have G_n := Aside0.mk (G.out.below hb1); have LP_n := Aside0.mk (LP.out.below hb1); have HS_n := Aside0.mk (HS.out.below hb1); clear G LP HS; have G := G_n; have LP := LP_n; have HS := HS_n; clear G_n LP_n HS_n; clear hb1; (try clear p0 p1); have p0 : w1.cell? ⟨w.heap.size, 0, none⟩ = some (.int .i64 pa) := blk_cell LP.out.blk 0; have p1 : w1.cell? ⟨w.heap.size, 1, none⟩ = some (.string pb) := blk_cell LP.out.blk 1) | (go_at_call 12; (with_reducible refine (right_calls _ _ _).mono ?_); rintro e w1 ⟨rfl, hb1⟩; have G_n := Aside0.mk (G.out.below hb1); have LP_n := Aside0.mk (LP.out.below hb1); have HS_n := Aside0.mk (HS.out.below hb1); clear G LP HS; have G := G_n; have LP := LP_n; have HS := HS_n; clear G_n LP_n HS_n; clear hb1; (try clear p0 p1); have p0 : w1.cell? ⟨w.heap.size, 0, none⟩ = some (.int .i64 pa) := blk_cell LP.out.blk 0; have p1 : w1.cell? ⟨w.heap.size, 1, none⟩ = some (.string pb) := blk_cell LP.out.blk 1))
      go_ret
      exact ⟨rfl, G.out.bel⟩
    | true =>
      go_upto_region 6 with (first | (go_at_call 9; (with_reducible refine (awake_calls _).mono ?_); rintro e w1 ⟨rfl, hb1⟩; have G_n := Aside0.mk (G.out.below hb1); have LP_n := Aside0.mk (LP.out.below hb1); have HS_n := Aside0.mk (HS.out.below hb1); clear G LP HS; have G := G_n; have LP := LP_n; have HS := HS_n; clear G_n LP_n HS_n; clear hb1; (try clear p0 p1); have p0 : w1.cell? ⟨w.heap.size, 0, none⟩ = some (.int .i64 pa) := blk_cell LP.out.blk 0; have p1 : w1.cell? ⟨w.heap.size, 1, none⟩ = some (.string pb) := blk_cell LP.out.blk 1) | (go_at_call 10; (with_reducible refine (long_calls _ _ _ _ (Kd.C_below HR.out G.out.bel) HC0.out).mono ?_); rintro e w1 ⟨rfl, hb1⟩; have G_n := Aside0.mk (G.out.below hb1); have LP_n := Aside0.mk (LP.out.below hb1); have HS_n := Aside0.mk (HS.out.below hb1); clear G LP HS; have G := G_n; have LP := LP_n; have HS := HS_n; clear G_n LP_n HS_n; clear hb1; (try clear p0 p1); have p0 : w1.cell? ⟨w.heap.size, 0, none⟩ = some (.int .i64 pa) := blk_cell LP.out.blk 0; have p1 : w1.cell? ⟨w.heap.size, 1, none⟩ = some (.string pb) := blk_cell LP.out.blk 1) | (go_at_call 12; (with_reducible refine (right_calls _ _ _).mono ?_); rintro e w1 ⟨rfl, hb1⟩; have G_n := Aside0.mk (G.out.below hb1); have LP_n := Aside0.mk (LP.out.below hb1); have HS_n := Aside0.mk (HS.out.below hb1); clear G LP HS; have G := G_n; have LP := LP_n; have HS := HS_n; clear G_n LP_n HS_n; clear hb1; (try clear p0 p1); have p0 : w1.cell? ⟨w.heap.size, 0, none⟩ = some (.int .i64 pa) := blk_cell LP.out.blk 0; have p1 : w1.cell? ⟨w.heap.size, 1, none⟩ = some (.string pb) := blk_cell LP.out.blk 1))
      clear hlg hsz
      have HQ := Aside0.mk (qs_new (base := 0) (n := 4) 11 (by decide) (by decide) (by decide) (by decide)); have HT := Aside0.mk (ht_new 0 (newD 11))
      generalize newD 11 = d0 at *
      generalize (fun _ => noPage : Int → Int × ByteArray) = want0 at *
      (try clear p0 p1)
      go_upto_region 7 with (fail)
      go_loopw [68] (fun v wr => ∃ (r : Nat) (T : Int) (want : Int → Int × ByteArray) (d : DS) (c : Nat → Nat), v = .int .i64 r ∧ Aside0 (r ≤ l.length) ∧ Aside0 (Gr w wr c) ∧ Aside0 (Fr.Loc wr c w.heap.size 3 #[.int .i64 pa, .string pb] 34) ∧ Aside0 (SO wr c gs g 0 4 T d) ∧ Aside0 (QS 0 4 T want d) ∧ Aside0 (St.HT 0 T d) ∧ Aside0 (1 ≤ T ∧ T ≤ 1 + r)) (fun v _ => l.length - (intOf v).toNat)
      case atStart => exact ⟨0, 1, want0, d0, _, rfl, ⟨by omega⟩, G, LP, HS, HQ, HT, ⟨by omega⟩⟩
      case round =>
        clear G LP HS HQ HT
        obtain ⟨r, T, want, d, c, rfl, R, G, LP, HS, HQ, HT, HB⟩ := hrel
        by_cases hlt : r < l.length
        · have h1 : (r : Int) < (l.length : Int) := by omega
          have hwk : wrap64 ((r : Int) + 1) = ((r + 1 : Nat) : Int) := by unfold wrap64; omega
          have HLT := Aside0.mk hlt
          obtain ⟨ad, A5, c5, rfl, q0, q1, q2, q3, q4, q5, hl5, hC5⟩ := at_T39 (Kd.C_below HR.out G.out.bel) (r : Int) (by omega) h1
          rw [Int.toNat_natCast] at q0 q1 q2 q3 q4 q5
          have HOP := Aside0.mk (HOPS.out _ (rd_mem hlt))
          clear hl5 hC5
          generalize rd_T39 l (r : Nat) = o_ at *
          go_upto_region 9 with (fail)
          have hf := fr_alloc [] wr c 4 (.cells #[.int .i64 o_.f0, .int .i64 o_.f1, .int .i64 o_.f2, .int .i64 o_.f3.f0, .string o_.f3.f1, .slice A5 o_.f4.length c5] 39)
          have G_n := Aside0.mk (G.out.step hf (by decide)); have LP_n := Aside0.mk (LP.out.keep hf (by decide)); have HS_n := Aside0.mk (HS.out.keep hf (by decide) (by decide)); clear G LP HS; have G := G_n; have LP := LP_n; have HS := HS_n; clear G_n LP_n HS_n
          have LO := Aside0.mk (loc_alloc wr c 4 #[.int .i64 o_.f0, .int .i64 o_.f1, .int .i64 o_.f2, .int .i64 o_.f3.f0, .string o_.f3.f1, .slice A5 o_.f4.length c5] 39)
          clear hf
          generalize Dk.paint c wr.heap.size 4 = cLO at *
          generalize wr.alloc (.cells #[.int .i64 o_.f0, .int .i64 o_.f1, .int .i64 o_.f2, .int .i64 o_.f3.f0, .string o_.f3.f1, .slice A5 o_.f4.length c5] 39) = W at *
          generalize wr.heap.size = ob at *
          clear q0 q1 q2 q3 q4 q5
          have q1 : W.cell? ⟨ob, 1, none⟩ = some (.int .i64 o_.f1) := blk_cell LO.out.blk 1; have q3 : W.cell? ⟨ob, 3, none⟩ = some (.int .i64 o_.f3.f0) := blk_cell LO.out.blk 3; have q4 : W.cell? ⟨ob, 4, none⟩ = some (.string o_.f3.f1) := blk_cell LO.out.blk 4
          have HTT := Aside0.mk (show 0 ≤ T ∧ T < 4294967295 by have := HB.out; have := HL200.out; omega)
          have HMO := Aside0.mk (Lv.mod_ok 4 o_.f1 (by decide) (by decide))
          go_wp2_with (go_at_call 13; (with_reducible refine (write_o HS.out HQ.out.ok (by decide) (by decide) HTT.out _ _ _).mono ?_); rintro e w1 ⟨rfl, c2, hf, hs⟩; have G_n := Aside0.mk (G.out.step hf (by decide)); have LP_n := Aside0.mk (LP.out.keep hf (by decide)); clear G LP; have G := G_n; have LP := LP_n; clear G_n LP_n; clear HS; have HS := Aside0.mk hs; clear hs hf)
          obtain ⟨T', want', ht, hq, h2, b1, b2⟩ := qs_any2 HQ.out HT.out HTT.out HMO.out o_.f3.f0 o_.f3.f1
          rw [ht] at HS
          clear HQ HT
          have HQ := Aside0.mk hq; have HT := Aside0.mk h2
          clear hq h2 ht
          go_roundw
          case rel => exact ⟨r + 1, T', want', _, _, by first | rfl | (rw [hwk]) | go_num, ⟨by have := HLT.out; omega⟩, G, LP, HS, HQ, HT, ⟨by have := HB.out; omega⟩⟩
          case measure =>
            have := HLT.out
            show l.length - (intOf (.int .i64 ((r + 1 : Nat) : Int))).toNat < l.length - (intOf (.int .i64 (r : Int))).toNat
            simp only [intOf]; omega
        · obtain rfl : r = l.length := by have := R.out; omega
          have HTT := Aside0.mk (show 0 ≤ T ∧ T < 4294967295 by have := HB.out; have := HL200.out; omega)
          have hwT : wrap64 (T + 1) = T + 1 := by have := HTT.out; unfold wrap64; omega
          have HWT := Aside0.mk hwT; clear hwT
          have HPK := Aside0.mk (right_packed hrt)
          clear hlt
          obtain ⟨wa, wb, hw⟩ : ∃ a b, want j' = (a, b) := ⟨_, _, rfl⟩
          have HW := Aside0.mk hw; clear hw
          go_upto_region 12 with (go_at_call 17; (with_reducible refine (read_q HS.out HQ.out (by decide) (by decide) HJ.out HW.out).mono ?_); rintro e w1 ⟨rfl, hb1⟩; have G_n := Aside0.mk (G.out.below hb1); have LP_n := Aside0.mk (LP.out.below hb1); have HS_n := Aside0.mk (HS.out.below hb1); clear G LP HS; have G := G_n; have LP := LP_n; have HS := HS_n; clear G_n LP_n HS_n; clear hb1)
          have hf := fr_alloc [] w1 c 4 (.cells #[.int .i64 wa, .string wb] 34)
          have G_n := Aside0.mk (G.out.step hf (by decide)); have LP_n := Aside0.mk (LP.out.keep hf (by decide)); have HS_n := Aside0.mk (HS.out.keep hf (by decide) (by decide)); clear G LP HS; have G := G_n; have LP := LP_n; have HS := HS_n; clear G_n LP_n HS_n
          have LW := Aside0.mk (loc_alloc w1 c 4 #[.int .i64 wa, .string wb] 34)
          clear hf
          generalize Dk.paint c w1.heap.size 4 = cLW at *
          generalize w1.alloc (.cells #[.int .i64 wa, .string wb] 34) = W at *
          generalize w1.heap.size = bw at *
          have p0 : W.cell? ⟨w.heap.size, 0, none⟩ = some (.int .i64 pa) := blk_cell LP.out.blk 0; have p1 : W.cell? ⟨w.heap.size, 1, none⟩ = some (.string pb) := blk_cell LP.out.blk 1
          go_upto_region 13 with (go_at_call 19; (with_reducible refine (ticket_o HS.out (by have := HTT.out; omega)).mono ?_); rintro e w1 ⟨rfl, hb1⟩; have G_n := Aside0.mk (G.out.below hb1); have LP_n := Aside0.mk (LP.out.below hb1); have LW_n := Aside0.mk (LW.out.below hb1); have HS_n := Aside0.mk (HS.out.below hb1); clear G LP LW HS; have G := G_n; have LP := LP_n; have LW := LW_n; have HS := HS_n; clear G_n LP_n LW_n HS_n; clear hb1; (try clear p0 p1); have p0 : w1.cell? ⟨w.heap.size, 0, none⟩ = some (.int .i64 pa) := blk_cell LP.out.blk 0; have p1 : w1.cell? ⟨w.heap.size, 1, none⟩ = some (.string pb) := blk_cell LP.out.blk 1)
          have hwT : wrap64 (T + 1) = T + 1 := HWT.out
          go_upto_region 15 with (first | (go_at_call 13; (with_reducible refine (write_q HS.out HQ.out (by decide) (by decide) HTT.out HI.out HPK.out).mono ?_); rintro e w1 ⟨rfl, c2, d2, hf, hs, hq, h2⟩; have G_n := Aside0.mk (G.out.step hf (by decide)); have LP_n := Aside0.mk (LP.out.keep hf (by decide)); have LW_n := Aside0.mk (LW.out.keep hf (by decide)); clear G LP LW; have G := G_n; have LP := LP_n; have LW := LW_n; clear G_n LP_n LW_n; clear HS HQ HT; have HS := Aside0.mk hs; have HQ := Aside0.mk hq; have HTT2 := Aside0.mk (show 0 ≤ T + 1 ∧ T + 1 < 4294967296 by have := HTT.out; omega); clear hs hf hq h2 p0 p1; have p0 : w1.cell? ⟨w.heap.size, 0, none⟩ = some (.int .i64 pa) := blk_cell LP.out.blk 0; have p1 : w1.cell? ⟨w.heap.size, 1, none⟩ = some (.string pb) := blk_cell LP.out.blk 1) | (go_at_call 19; (with_reducible refine (ticket_o HS.out HTT2.out).mono ?_); rintro e w1 ⟨rfl, hb1⟩; have G_n := Aside0.mk (G.out.below hb1); have LP_n := Aside0.mk (LP.out.below hb1); have LW_n := Aside0.mk (LW.out.below hb1); have HS_n := Aside0.mk (HS.out.below hb1); clear G LP LW HS; have G := G_n; have LP := LP_n; have LW := LW_n; have HS := HS_n; clear G_n LP_n LW_n HS_n; clear hb1; (try clear p0 p1); have p0 : w1.cell? ⟨w.heap.size, 0, none⟩ = some (.int .i64 pa) := blk_cell LP.out.blk 0; have p1 : w1.cell? ⟨w.heap.size, 1, none⟩ = some (.string pb) := blk_cell LP.out.blk 1))
          clear hwT p0 p1
          have HU := Aside0.mk (up_at want i' (pa, pb))
          go_upto_region 16 with (go_at_call 17; (with_reducible refine (read_q HS.out HQ.out (by decide) (by decide) HI.out HU.out).mono ?_); rintro e w1 ⟨rfl, hb1⟩; have G_n := Aside0.mk (G.out.below hb1); have LP_n := Aside0.mk (LP.out.below hb1); have LW_n := Aside0.mk (LW.out.below hb1); have HS_n := Aside0.mk (HS.out.below hb1); clear G LP LW HS; have G := G_n; have LP := LP_n; have LW := LW_n; have HS := HS_n; clear G_n LP_n LW_n HS_n; clear hb1)
          have hf := fr_alloc [] w1 c2 4 (.cells #[.int .i64 pa, .string pb] 34)
          have G_n := Aside0.mk (G.out.step hf (by decide)); have LP_n := Aside0.mk (LP.out.keep hf (by decide)); have LW_n := Aside0.mk (LW.out.keep hf (by decide)); have HS_n := Aside0.mk (HS.out.keep hf (by decide) (by decide)); clear G LP LW HS; have G := G_n; have LP := LP_n; have LW := LW_n; have HS := HS_n; clear G_n LP_n LW_n HS_n
          have LX := Aside0.mk (loc_alloc w1 c2 4 #[.int .i64 pa, .string pb] 34)
          clear hf
          generalize Dk.paint c2 w1.heap.size 4 = cLX at *
          generalize w1.alloc (.cells #[.int .i64 pa, .string pb] 34) = W at *
          generalize w1.heap.size = bx at *
          by_cases hij : i' = j'
          · have hb : (i' == j') = true := beq_iff_eq.2 hij
            have HY := Aside0.mk (show up want i' (pa, pb) j' = (pa, pb) by rw [← hij]; exact up_at _ _ _)
            clear hij
            go_upto_region 17 with (go_at_call 17; (with_reducible refine (read_q HS.out HQ.out (by decide) (by decide) HJ.out HY.out).mono ?_); rintro e w1 ⟨rfl, hb1⟩; have G_n := Aside0.mk (G.out.below hb1); have LP_n := Aside0.mk (LP.out.below hb1); have LW_n := Aside0.mk (LW.out.below hb1); have LX_n := Aside0.mk (LX.out.below hb1); have HS_n := Aside0.mk (HS.out.below hb1); clear G LP LW LX HS; have G := G_n; have LP := LP_n; have LW := LW_n; have LX := LX_n; have HS := HS_n; clear G_n LP_n LW_n LX_n HS_n; clear hb1)
            have hf := fr_alloc [] w1 cLX 4 (.cells #[.int .i64 pa, .string pb] 34)
            have G_n := Aside0.mk (G.out.step hf (by decide)); have LP_n := Aside0.mk (LP.out.keep hf (by decide)); have LW_n := Aside0.mk (LW.out.keep hf (by decide)); have LX_n := Aside0.mk (LX.out.keep hf (by decide)); have HS_n := Aside0.mk (HS.out.keep hf (by decide) (by decide)); clear G LP LW LX HS; have G := G_n; have LP := LP_n; have LW := LW_n; have LX := LX_n; have HS := HS_n; clear G_n LP_n LW_n LX_n HS_n
            have LY := Aside0.mk (loc_alloc w1 cLX 4 #[.int .i64 pa, .string pb] 34)
            clear hf
            generalize Dk.paint cLX w1.heap.size 4 = cLY at *
            generalize w1.alloc (.cells #[.int .i64 pa, .string pb] 34) = W at *
            generalize w1.heap.size = by_ at *
            have p0 : W.cell? ⟨w.heap.size, 0, none⟩ = some (.int .i64 pa) := blk_cell LP.out.blk 0; have p1 : W.cell? ⟨w.heap.size, 1, none⟩ = some (.string pb) := blk_cell LP.out.blk 1
            have x0 : W.cell? ⟨bx, 0, none⟩ = some (.int .i64 pa) := blk_cell LX.out.blk 0; have x1 : W.cell? ⟨bx, 1, none⟩ = some (.string pb) := blk_cell LX.out.blk 1
            have y0 : W.cell? ⟨by_, 0, none⟩ = some (.int .i64 pa) := blk_cell LY.out.blk 0; have y1 : W.cell? ⟨by_, 1, none⟩ = some (.string pb) := blk_cell LY.out.blk 1
            have z0 : W.cell? ⟨bw, 0, none⟩ = some (.int .i64 wa) := blk_cell LW.out.blk 0; have z1 : W.cell? ⟨bw, 1, none⟩ = some (.string wb) := blk_cell LW.out.blk 1
            go_wp2
            go_ret
            exact ⟨by first | rfl | simp, G.out.bel⟩
          · have hb : (i' == j') = false := beq_eq_false_iff_ne.2 hij
            have HY := Aside0.mk (show up want i' (pa, pb) j' = (wa, wb) by rw [up_off _ _ (fun e => hij e.symm)]; exact HW.out)
            clear hij
            go_upto_region 17 with (go_at_call 17; (with_reducible refine (read_q HS.out HQ.out (by decide) (by decide) HJ.out HY.out).mono ?_); rintro e w1 ⟨rfl, hb1⟩; have G_n := Aside0.mk (G.out.below hb1); have LP_n := Aside0.mk (LP.out.below hb1); have LW_n := Aside0.mk (LW.out.below hb1); have LX_n := Aside0.mk (LX.out.below hb1); have HS_n := Aside0.mk (HS.out.below hb1); clear G LP LW LX HS; have G := G_n; have LP := LP_n; have LW := LW_n; have LX := LX_n; have HS := HS_n; clear G_n LP_n LW_n LX_n HS_n; clear hb1)
            have hf := fr_alloc [] w1 cLX 4 (.cells #[.int .i64 wa, .string wb] 34)
            have G_n := Aside0.mk (G.out.step hf (by decide)); have LP_n := Aside0.mk (LP.out.keep hf (by decide)); have LW_n := Aside0.mk (LW.out.keep hf (by decide)); have LX_n := Aside0.mk (LX.out.keep hf (by decide)); have HS_n := Aside0.mk (HS.out.keep hf (by decide) (by decide)); clear G LP LW LX HS; have G := G_n; have LP := LP_n; have LW := LW_n; have LX := LX_n; have HS := HS_n; clear G_n LP_n LW_n LX_n HS_n
            have LY := Aside0.mk (loc_alloc w1 cLX 4 #[.int .i64 wa, .string wb] 34)
            clear hf
            generalize Dk.paint cLX w1.heap.size 4 = cLY at *
            generalize w1.alloc (.cells #[.int .i64 wa, .string wb] 34) = W at *
            generalize w1.heap.size = by_ at *
            have p0 : W.cell? ⟨w.heap.size, 0, none⟩ = some (.int .i64 pa) := blk_cell LP.out.blk 0; have p1 : W.cell? ⟨w.heap.size, 1, none⟩ = some (.string pb) := blk_cell LP.out.blk 1
            have x0 : W.cell? ⟨bx, 0, none⟩ = some (.int .i64 pa) := blk_cell LX.out.blk 0; have x1 : W.cell? ⟨bx, 1, none⟩ = some (.string pb) := blk_cell LX.out.blk 1
            have y0 : W.cell? ⟨by_, 0, none⟩ = some (.int .i64 wa) := blk_cell LY.out.blk 0; have y1 : W.cell? ⟨by_, 1, none⟩ = some (.string wb) := blk_cell LY.out.blk 1
            have z0 : W.cell? ⟨bw, 0, none⟩ = some (.int .i64 wa) := blk_cell LW.out.blk 0; have z1 : W.cell? ⟨bw, 1, none⟩ = some (.string wb) := blk_cell LW.out.blk 1
            go_wp2
            go_ret
            exact ⟨by first | rfl | simp, G.out.bel⟩
open Classical in
noncomputable def careenlaw07_StoreLast.f (l0 : List S39) (a1 a2 a3_0 : Int) (a3_1 : ByteArray) : Option Bool := if OkOps l0 then some true else none
theorem careenlaw07_StoreLast.calls (A0 : Option Addr) (c0 : Nat) (l0 : List S39) (a1 a2 a3_0 : Int) (a3_1 : ByteArray) (r : Bool) (w : World) (hr0 : Kd.C k39 w A0 l0.length l0) (hc0 : l0.length ≤ c0) (h : careenlaw07_StoreLast.f l0 a1 a2 a3_0 a3_1 = some r) :
    Calls Try.prog 4 #[.slice A0 l0.length c0, .int .i64 a1, .int .i64 a2, .agg #[.int .i64 a3_0, .string a3_1]] w fun e w' => e = .returned (.bool r) ∧ Below w.heap.size w w' := by
  unfold careenlaw07_StoreLast.f at h
  by_cases ho : OkOps l0
  · rw [if_pos ho] at h
    obtain rfl := Option.some.inj h
    exact last_walk A0 c0 l0 a1 a2 a3_0 a3_1 w hr0 hc0 ho
  · rw [if_neg ho] at h
    cases h
end Go.Proofs.Ytneilimiijcghaa.X12
