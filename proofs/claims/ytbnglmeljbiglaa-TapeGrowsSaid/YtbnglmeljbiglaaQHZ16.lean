import Derived.Test.YtbnglmeljbiglaaRows
import Derived.WalkKit
import Derived.ProofKit
import Derived.OpenShut
import Derived.ShutString
import Derived.ChangeOld
import Derived.Below
import Derived.SizedLaws
import Derived.Test.YtbnglmeljbiglaaQHZ0
import Derived.Test.YtbnglmeljbiglaaQHZ1
import Derived.Test.YtbnglmeljbiglaaQHZ2
import Derived.Test.YtbnglmeljbiglaaQHZ3
import Derived.Test.YtbnglmeljbiglaaQHZ4
import Derived.Test.YtbnglmeljbiglaaQHZ5
import Derived.Test.YtbnglmeljbiglaaQHZ6
import Derived.Test.YtbnglmeljbiglaaQHZ7
import Derived.Test.YtbnglmeljbiglaaQHZ8
import Derived.Test.YtbnglmeljbiglaaQHZ9
import Derived.Test.YtbnglmeljbiglaaQHZ10
import Derived.Test.YtbnglmeljbiglaaQHZ11
import Derived.Test.YtbnglmeljbiglaaQHZ12
import Derived.Test.YtbnglmeljbiglaaQHZ13
import Derived.Test.YtbnglmeljbiglaaQHZ14
import Derived.Test.YtbnglmeljbiglaaQHZ15
set_option maxRecDepth 8192
namespace Go.Proofs.Ytbnglmeljbiglaa.Wl
open Go.Proofs.Ytbnglmeljbiglaa.Rgn
open Go.Proofs.Ytbnglmeljbiglaa.X4 Go.Proofs.Ytbnglmeljbiglaa.Pt Go.Proofs.Ytbnglmeljbiglaa.Ptb Go Go.RowKit Go.ChangeMaps Go.Proofs.Ytbnglmeljbiglaa.Arr Go.Proofs.Ytbnglmeljbiglaa.Mp Go.Proofs.Ytbnglmeljbiglaa.Ow Go.Proofs.Ytbnglmeljbiglaa.Dk Go.Proofs.Ytbnglmeljbiglaa.Fr Go.Proofs.YtbnglmeljbiglaaW.PrintWords Go.Proofs.YtbnglmeljbiglaaW.PrintLast Go.Proofs.YtbnglmeljbiglaaW.PrintMore
set_option linter.unusedVariables false
set_option linter.unusedSimpArgs false
theorem twhole_nil (q : Value) (hq : q = .pointer none ∨ ∃ p, q = .pointer (some p)) (w : World) : Calls Try.prog 39 #[.pointer none, q] w fun e w' => e = .returned (.tuple #[.slice none 0 0, .int .i64 10]) ∧ Below w.heap.size w w' := by
  have HQ := Aside0.mk hq
  clear hq
  go_enter Try.func39, Try.ntmps39
  go_upto_region 2 with (go_at_call 58; (with_reducible refine (joins_nil _ HQ.out _).mono ?_); rintro e w1 ⟨rfl, hb1⟩; have HB := Aside0.mk hb1; clear hb1)
  go_wp2
  go_ret2
  exact ⟨rfl, HB.out⟩
section
variable {w0 w w' : World} {c c' : Nat → Nat} {gt gl m g : Nat} {E : Int} {v : Value} {xs : List En_} {W : WS}
theorem twhole_bad (h : TP w0 w c gt E v xs) (hl : LO w c gl m g W) (hj : E < W.low) : Calls Try.prog 39 #[.pointer (some ⟨gt, 0, none⟩), .pointer (some ⟨gl, 0, none⟩)] w fun e w' => e = .returned (.tuple #[.slice none 0 0, .int .i64 11]) ∧ Below w.heap.size w w' := by
  have HT := Aside0.mk h; have HL := Aside0.mk hl; have HJ := Aside0.mk (show joinE W E = 11 from if_pos hj)
  clear h hl hj
  go_enter Try.func39, Try.ntmps39
  go_upto_region 2 with (go_at_call 58; (with_reducible refine (joins_calls HT.out HL.out).mono ?_); rintro e w1 ⟨rfl, hb1⟩; rw [HJ.out]; have HB := Aside0.mk hb1; clear hb1)
  go_wp2
  go_ret2
  exact ⟨rfl, HB.out⟩
set_option maxHeartbeats 16000000 in
theorem twhole_calls (h : TP w0 w c gt E v xs) (G : Gr w0 w c) (hl : LO w c gl m g W) (F : Fit W) (hbd : ∀ i, (bdy W i).size ≤ 112) (hgap : W.low ≤ W.op + 1 ∧ W.op - W.low ≤ 1000) (hE : 0 ≤ E ∧ E ≤ 1000000000) (hj : W.low ≤ E) (hx : xs.length ≤ 1000000000) :
    Calls Try.prog 39 #[.pointer (some ⟨gt, 0, none⟩), .pointer (some ⟨gl, 0, none⟩)] w fun e w' => ∃ v' c', e = .returned (.tuple #[v', .int .i64 0]) ∧ Fr [] w c w' c' ∧ NL X4.k44 44 w0.heap.size w' c' 5 v' (xs ++ scanF W (E * 128)) := by
  have HT := Aside0.mk h; have G := Aside0.mk G; have HL := Aside0.mk hl; have HF := Aside0.mk F; have HBD := Aside0.mk hbd; have HGP := Aside0.mk hgap; have HE := Aside0.mk hE; have HX := Aside0.mk hx
  have HJ := Aside0.mk (show joinE W E = 0 from if_neg (by omega)); have HRR := Aside0.mk (Fr.refl [] w c)
  have hwe : wrap64 (E * 128) = E * 128 := by unfold wrap64; omega
  have HLL := Aside0.mk (show (scanF W (E * 128)).length ≤ 1000000 from scan_len W hbd hgap.2 _)
  clear h hl F hbd hgap hE hj hx
  go_enter Try.func39, Try.ntmps39
  go_upto_region 4 with (go_at_call 58; (with_reducible refine (joins_calls HT.out HL.out).mono ?_); rintro e w1 ⟨rfl, hb1⟩; rw [HJ.out]; have HT_n := Aside0.mk (TP.below HT.out hb1); have G_n := Aside0.mk (G.out.below hb1); have HL_n := Aside0.mk (HL.out.below hb1); have HRR_n := Aside0.mk (Fr.trans HRR.out (Fr.of_below hb1)); clear HT G HL HRR; have HT := HT_n; have G := G_n; have HL := HL_n; have HRR := HRR_n; clear HT_n G_n HL_n HRR_n; clear hb1)
  have HT_n := Aside0.mk (TP.drew HT.out); have G_n := Aside0.mk (G.out.drew); have HL_n := Aside0.mk (HL.out.drew); have HRR_n := Aside0.mk (Fr.trans HRR.out (fr_drew _ _ _)); clear HT G HL HRR; have HT := HT_n; have G := G_n; have HL := HL_n; have HRR := HRR_n; clear HT_n G_n HL_n HRR_n
  have c0 := HT.out.c0
  refine start_ (n := 12) (S := fun w' => w'.cell? ⟨gt, 0, none⟩ = some (.int .i64 E)) (ds := []) #[false, false, false, false, false, false, false, false, false, false, false, false] (by kernel_rfl) rfl rfl c0 (fun hHeld => ?_)
  refine rgp 0 13 ?_
  refine rgp 2 15 ?_
  refine rgp 3 16 ?_
  refine rgp 4 17 ?_
  refine rgp 5 18 ?_
  refine rgt 6 19 hHeld ?_
  refine rgp 7 20 ?_
  refine one_ (i := 1) (N := some 14) #[true, true, true, true, true, true, true, true, false, false, false, false] rfl rfl (by kernel_rfl) (by decide) (fun K hK => ?_)
  generalize w1.drew = W1 at *
  refine goes_ Try.func36 (by kernel_rfl) rfl #[.pointer (some ⟨gt, 0, none⟩)] (by rfl) rfl rfl (by (try simp only [List.map_toArray, List.map_cons, List.map_nil]); first | done | rfl) ?_
  refine (tlist_calls HT.out G.out HX.out).mono ?_
  rintro e v1_ ⟨v2, c2, rfl, hf, hn, ho⟩
  obtain ⟨A2, cp2, hv2⟩ := Kd.N_slice hn
  subst hv2
  refine ⟨_, rfl, ?_⟩
  have HWS := Aside0.mk HRR.out.size; have HNO := Aside0.mk ho; clear ho; have HV := Aside0.mk (nl_of hn); have HT_n := Aside0.mk (TP.keep HT.out G.out hf (by decide) (by decide) (by decide)); have G_n := Aside0.mk (G.out.step hf (by decide)); have HL_n := Aside0.mk (HL.out.keep hf (by decide)); have HRR_n := Aside0.mk (Fr.trans HRR.out (hf.mono (by decide))); clear HT G HL HRR; have HT := HT_n; have G := G_n; have HL := HL_n; have HRR := HRR_n; clear HT_n G_n HL_n HRR_n; clear hn hf c0
  have c0 := HT.out.c0
  refine hK _ _ c0 (fun hHeld => ?_)
  clear hK K
  refine norm_ (a' := ?_) ?_ ?_
  rotate_left
  · show Act.put _ (some 14) _ = _
    simp only [Act.put, List.setIfInBounds_toArray, List.set_cons_zero, List.set_cons_succ, i64_w, i32_w]
    rfl
  refine one_ (i := 8) (N := some 21) #[true, true, true, true, true, true, true, true, true, false, false, false] rfl rfl (by kernel_rfl) (by decide) (fun K hK => ?_)
  skip
  refine goes_ Try.func20 (by kernel_rfl) rfl #[.pointer (some ⟨gl, 0, none⟩), .int .i64 (wrap64 (E * 128))] (by rfl) rfl rfl (by (try simp only [List.map_toArray, List.map_cons, List.map_nil]); first | done | rfl) ?_
  rw [hwe]
  refine (scan_calls HL.out HF.out HBD.out HGP.out (E * 128)).mono ?_
  rintro e v2_ ⟨v3, rfl, hn, hb1⟩
  obtain ⟨A3, cp3, hv3⟩ := Kd.N_slice hn
  subst hv3
  refine ⟨_, rfl, ?_⟩
  have HLT := Aside0.mk (Kd.N_lt HV.out)
  have hf := Fr.of_paint (M := []) (c := c2) hb1 5
  have HN := Aside0.mk hn
  have HVn := Aside0.mk (HV.out.keep G.out hf (by decide) (by decide)); have HT_n := Aside0.mk (TP.keep HT.out G.out hf (by decide) (by decide) (by decide)); have G_n := Aside0.mk (G.out.step hf (by decide)); have HL_n := Aside0.mk (HL.out.keep hf (by decide)); have HRR_n := Aside0.mk (Fr.trans HRR.out (hf.mono (by decide))); clear HT G HL HRR; have HT := HT_n; have G := G_n; have HL := HL_n; have HRR := HRR_n; clear HT_n G_n HL_n HRR_n; clear HV
  have HV := HVn; clear HVn
  have HRF := Aside0.mk (show Kd.F X4.k44 v2_ (fun q => okC w0.heap.size (Dk.paint c2 v1_.heap.size 5) 5 q ∧ some q ≠ (Value.slice A2 xs.length cp2).ownBlock) A3 (scanF W (E * 128)).length (scanF W (E * 128)) from Kd.F_mono (Kd.N_F HN.out) (fun q hq => ⟨.inr (paint_new hq), fun e1 => by have := HLT.out q e1.symm; omega⟩))
  clear hn hf hb1 c0 HN HLT
  generalize Dk.paint c2 v1_.heap.size 5 = c3 at *
  have c0 := HT.out.c0
  refine hK _ _ c0 (fun hHeld => ?_)
  clear hK K
  refine norm_ (a' := ?_) ?_ ?_
  rotate_left
  · show Act.put _ (some 21) _ = _
    simp only [Act.put, List.setIfInBounds_toArray, List.set_cons_zero, List.set_cons_succ, i64_w, i32_w]
    rfl
  refine one_ (i := 9) (N := some 22) #[true, true, true, true, true, true, true, true, true, true, false, false] rfl rfl (by kernel_rfl) (by decide) (fun K hK => ?_)
  refine Kd.N_append_rows_step X4.k44 (w0 := w0) (W := v2_) w0.heap.size (by kernel_rfl) (.tmp 14) (.tmp 21) 33 44 zE 144 rfl Try.underlying33 info_ent rfl (by decide) (by decide) (.slice A2 xs.length cp2) xs (scanF W (E * 128)) A3 (scanF W (E * 128)).length cp3 (okC w0.heap.size (Dk.paint c3 v2_.heap.size 5) 5) (fun q => (okC w0.heap.size c3 5 q ∧ some q ≠ (Value.slice A2 xs.length cp2).ownBlock) ∧ q < v2_.heap.size) rfl rfl (HV.out.paint 5) (Kd.F_bound HRF.out) (fun k hk => ⟨hk.1.1.elim .inl (fun h1 => .inr ((paint_old hk.2).trans h1)), hk.1.2⟩) (ok_new _ _ _ _) G.out.bel G.out.bel.size (by have := HX.out; have := HLL.out; omega) ?_
  intro v4 v3_ hv hb5 hg hat
  have HV4 := Aside0.mk (show NL X4.k44 44 w0.heap.size v3_ (Dk.paint c3 v2_.heap.size 5) 5 v4 (xs ++ scanF W (E * 128)) from hv)
  have hf := fr_grown hg 5 HV.out.own
  have HT_n := Aside0.mk (HT.out.blk.keep hf (by decide))
  have HRR_n := Aside0.mk (fr_grown_new HRR.out hg 5 (fun k hk => Nat.le_trans HWS.out (HNO.out k hk)))
  clear HRR
  have HRR := HRR_n; clear HRR_n hv hb5 hg hat hf
  refine hK _ _ (blk_cell HT_n.out.blk 0) (fun hHeld => ?_)
  clear hK K c0
  refine norm_ (a' := ?_) ?_ ?_
  rotate_left
  · show Act.put _ (some 22) _ = _
    simp only [Act.put, List.setIfInBounds_toArray, List.set_cons_zero, List.set_cons_succ, i64_w, i32_w]
    rfl
  refine rgp 10 4 ?_
  refine rgp 11 5 ?_
  refine done_ (by kernel_rfl) ?_
  go_wp2
  go_ret2
  exact ⟨_, _, rfl, HRR.out, HV4.out⟩
end
theorem tcopy_nil (w : World) : Calls Try.prog 41 #[.pointer none] w fun e w' => e = .returned (.pointer none) ∧ Below w.heap.size w w' := by
  go_enter Try.func41, Try.ntmps41
  go_wp2
  go_ret
  exact ⟨rfl, Below.refl _ _⟩
theorem tpage_nil (n : Int) (w : World) : Calls Try.prog 40 #[.pointer none, .pointer none, .int .i64 n] w fun e w' => ∃ a b, e = .returned (.tuple #[.agg #[.int .i64 a, .string b], .int .i64 10]) ∧ Below w.heap.size w w' := by
  have HT := Aside0.mk (heap_alloc_new w (.cells #[.int .i64 0, .string ⟨#[]⟩] 78))
  have HB := Aside0.mk ((Below.refl w.heap.size w).alloc (Nat.le_refl _) (.cells #[.int .i64 0, .string ⟨#[]⟩] 78))
  go_enter Try.func40, Try.ntmps40
  go_upto_region 1 with (fail)
  generalize w.alloc (.cells #[.int .i64 0, .string ⟨#[]⟩] 78) = w1 at *
  go_upto_region 3 with (go_at_call 39; (with_reducible refine (twhole_nil _ (.inl rfl) _).mono ?_); rintro e w2 ⟨rfl, hb1⟩; have HB2 := Aside0.mk (HB.out.trans (hb1.mono HB.out.size)); have HT2 := Aside0.mk ((hb1.block _ (blk_lt' HT.out)).trans HT.out); clear hb1)
  have z0 : w2.cell? ⟨w.heap.size, 0, none⟩ = some (.int .i64 0) := blk_cell HT2.out 0; have y0 : w2.frozen? ⟨w.heap.size, 0, none⟩ = false := blk_frozen HT2.out 0
  have z1 : w2.cell? ⟨w.heap.size, 1, none⟩ = some (.string ⟨#[]⟩) := blk_cell HT2.out 1; have y1 : w2.frozen? ⟨w.heap.size, 1, none⟩ = false := blk_frozen HT2.out 1
  go_wp2
  refine bodyPost_ret (results_ct rfl _ _ _ _ _ _ _ rfl (set_blk_to (set_blk_to HT2.out 0 (.int .i64 0) #[.int .i64 0, .string ⟨#[]⟩] rfl) 1 (.string ⟨#[]⟩) #[.int .i64 0, .string ⟨#[]⟩] rfl) Try.underlying78 rfl rfl) rfl ⟨0, ⟨#[]⟩, rfl, ?_⟩
  exact (HB2.out.setCell (Nat.le_refl _) _).setCell (Nat.le_refl _) _
end Go.Proofs.Ytbnglmeljbiglaa.Wl
set_option maxRecDepth 8192
namespace Go.Proofs.Ytbnglmeljbiglaa.Wl
open Go.Proofs.Ytbnglmeljbiglaa.X4 Go.Proofs.Ytbnglmeljbiglaa.Pt Go.Proofs.Ytbnglmeljbiglaa.Ptb Go Go.RowKit Go.ChangeMaps Go.Proofs.Ytbnglmeljbiglaa.Arr Go.Proofs.Ytbnglmeljbiglaa.Mp Go.Proofs.Ytbnglmeljbiglaa.Ow Go.Proofs.Ytbnglmeljbiglaa.Dk Go.Proofs.Ytbnglmeljbiglaa.Fr Go.Proofs.YtbnglmeljbiglaaW.PrintWords Go.Proofs.YtbnglmeljbiglaaW.PrintLast Go.Proofs.YtbnglmeljbiglaaW.PrintMore
set_option linter.unusedVariables false
set_option linter.unusedSimpArgs false
theorem app_bd {W : WS} (h : ∀ i, (bdy W i).size ≤ 112) (r : Rc_) (i : Int) : (bdy (appendW W r).2.2 i).size ≤ 112 := by
  unfold appendW
  split
  · exact h i
  · have hs := print_le r
    generalize (Rp.printF r).1 = s at *
    unfold appW
    split
    · exact h i
    · show ((fill W.f (goesW W s.size).1 ((goesW W s.size).2 ++ s) i).getD ⟨#[]⟩).size ≤ 112
      unfold fill
      split
      · show ((goesW W s.size).2 ++ s).size ≤ 112
        rw [ByteArray.size_append]
        unfold goesW
        split
        · show (0 : Nat) + s.size ≤ 112; omega
        · rename_i hc
          by_cases hb : bdy W W.op = ⟨#[]⟩
          · rw [hb]; show (0 : Nat) + s.size ≤ 112; omega
          · show (bdy W W.op).size + s.size ≤ 112
            by_cases hz : 112 < (bdy W W.op).size + s.size
            · exact absurd ⟨hb, hz⟩ hc
            · omega
      · exact h i
theorem flush_bd {W : WS} (h : ∀ i, (bdy W i).size ≤ 112) (d : DS) (i : Int) : (bdy (flushW W d).2.1 i).size ≤ 112 := by
  unfold flushW
  split
  · exact h i
  · split
    · exact h i
    · split
      · exact h i
      · exact h i
theorem cut_bd {W : WS} (h : ∀ i, (bdy W i).size ≤ 112) (p : Int) (i : Int) : (bdy (cutW W p) i).size ≤ 112 := by
  unfold cutW
  split
  · show ((if W.low ≤ i ∧ i < p then none else W.f i).getD ⟨#[]⟩).size ≤ 112
    split
    · exact Nat.zero_le _
    · exact h i
  · exact h i
def bwW0 : WS := newW 0 8
def bwW1 : WS := (appendW bwW0 awR).2.2
def bwW2 : WS := (appendW bwW1 awR).2.2
def bwW3 : WS := (flushW bwW2 (newD 8)).2.1
def bwW4 : WS := cutW bwW3 2
def bwW5 : WS := (appendW bwW4 awR).2.2
theorem bw_b0 (i : Int) : (bdy bwW0 i).size ≤ 112 := Nat.zero_le _
theorem bw_b1 (i : Int) : (bdy bwW1 i).size ≤ 112 := app_bd bw_b0 awR i
theorem bw_b2 (i : Int) : (bdy bwW2 i).size ≤ 112 := app_bd bw_b1 awR i
theorem bw_b3 (i : Int) : (bdy bwW3 i).size ≤ 112 := flush_bd bw_b2 _ i
theorem bw_b4 (i : Int) : (bdy bwW4 i).size ≤ 112 := cut_bd bw_b3 2 i
theorem bw_b5 (i : Int) : (bdy bwW5 i).size ≤ 112 := app_bd bw_b4 awR i
theorem bw_l0 : liesE (newD 8) 0 8 = 0 := by decide +kernel
theorem bw_op2 : bwW2.op ≤ 100000000 ∧ bwW2.first ≤ bwW2.op + 1 ∧ bwW2.op - bwW2.first ≤ 1000 := by decide +kernel
theorem bw_g3 : bwW3.low ≤ bwW3.op + 1 ∧ bwW3.op - bwW3.low ≤ 1000 := by decide +kernel
theorem bw_g5 : bwW5.low ≤ bwW5.op + 1 ∧ bwW5.op - bwW5.low ≤ 1000 := by decide +kernel
theorem bw_j3 : bwW3.low ≤ 1 ∧ max 1 bwW3.first = 2 := by decide +kernel
theorem bw_j5 : bwW5.low = 2 := by decide +kernel
theorem bw_t3 : (tk bwW3 1).length = 2 := by decide +kernel
theorem bw_c3 : cutE bwW3 2 = 0 := by decide +kernel
theorem bw_s5 : (scanF bwW5 (2 * 128)).length = 1 := by decide +kernel
theorem bw_fit0 : Fit bwW0 := ⟨by decide +kernel, by decide +kernel, by decide +kernel, by decide +kernel, by decide +kernel, by decide +kernel⟩
theorem bw_fit1 : Fit bwW1 := ⟨by decide +kernel, by decide +kernel, by decide +kernel, by decide +kernel, by decide +kernel, by decide +kernel⟩
theorem bw_fit2 : Fit bwW2 := ⟨by decide +kernel, by decide +kernel, by decide +kernel, by decide +kernel, by decide +kernel, by decide +kernel⟩
theorem bw_fit3 : Fit bwW3 := ⟨by decide +kernel, by decide +kernel, by decide +kernel, by decide +kernel, by decide +kernel, by decide +kernel⟩
theorem bw_fit4 : Fit bwW4 := ⟨by decide +kernel, by decide +kernel, by decide +kernel, by decide +kernel, by decide +kernel, by decide +kernel⟩
theorem bw_fit5 : Fit bwW5 := ⟨by decide +kernel, by decide +kernel, by decide +kernel, by decide +kernel, by decide +kernel, by decide +kernel⟩
set_option maxHeartbeats 16000000 in
set_option maxRecDepth 20000 in
theorem awake15_calls (w : World) : Calls Try.prog 33 #[] w fun e w' => e = .returned (.bool true) ∧ Below w.heap.size w w' := by
  have G := Aside0.mk (Gr.refl w)
  go_enter Try.func33, Try.ntmps33
  go_upto_region 2 with (go_at_call 11; (with_reducible refine (newdisk8 G.out).mono ?_); rintro e w1 ⟨g, rfl, hk, hf⟩; have G_n := Aside0.mk (G.out.step hf (by decide)); clear G; have G := G_n; clear G_n; have HD := Aside0.mk hk; clear hk hf)
  have HO := Aside0.mk (Dk.ok_new 8 (by decide))
  go_upto_region 3 with (go_at_call 12; (with_reducible refine (lnew_calls HD.out HO.out 0 8 (by decide) (by decide) bw_l0).mono ?_); rintro e w1 ⟨gl, m, c1, rfl, hf, hl, hd⟩; have G_n := Aside0.mk (G.out.step hf (by decide)); clear G; have G := G_n; clear G_n; clear HD; have HD := Aside0.mk hd; have HL := Aside0.mk (show LO w1 c1 gl m g bwW0 from hl); clear hl hd hf)
  go_upto_region 4 with (go_at_call 15; (with_reducible refine (append_aw HL.out bw_fit0 (Nat.le_trans (bw_b0 _) (by decide)) none 0 none 0).mono ?_); rintro e w1 ⟨rfl, hf, hl⟩; have G_n := Aside0.mk (G.out.step hf (by decide)); have HD_n := Aside0.mk (dk_keep HD.out hf (by decide)); clear G HD; have G := G_n; have HD := HD_n; clear G_n HD_n; clear HL; have HL := Aside0.mk (show LO w1 _ gl m g bwW1 from hl); clear hl hf)
  go_upto_region 5 with (go_at_call 15; (with_reducible refine (append_aw HL.out bw_fit1 (Nat.le_trans (bw_b1 _) (by decide)) none 0 none 0).mono ?_); rintro e w1 ⟨rfl, hf, hl⟩; have G_n := Aside0.mk (G.out.step hf (by decide)); have HD_n := Aside0.mk (dk_keep HD.out hf (by decide)); clear G HD; have G := G_n; have HD := HD_n; clear G_n HD_n; clear HL; have HL := Aside0.mk (show LO w1 _ gl m g bwW2 from hl); clear hl hf)
  go_upto_region 6 with (go_at_call 16; (with_reducible refine (flush_calls HL.out HD.out HO.out (by decide) bw_fit2 bw_b2 bw_op2.1 bw_op2.2).mono ?_); rintro e w1 ⟨rfl, c1, hf, hl, hd, ho⟩; have G_n := Aside0.mk (G.out.step hf (by decide)); clear G; have G := G_n; clear G_n; clear HD HL HO; have HL := Aside0.mk (show LO w1 c1 gl m g bwW3 from hl); clear hl hd hf ho)
  go_upto_region 7 with (go_at_call 35; (with_reducible refine (tnew_calls G.out).mono ?_); rintro e w1 ⟨gt, c1, rfl, hf, ht⟩; have G_n := Aside0.mk (G.out.step hf (by decide)); have HL_n := Aside0.mk (HL.out.keep hf (by decide)); clear G HL; have G := G_n; have HL := HL_n; clear G_n HL_n; have HT := Aside0.mk ht; clear ht hf)
  go_upto_region 8 with (go_at_call 38; (with_reducible refine (tadd_calls HT.out G.out HL.out bw_fit3 bw_b3 bw_g3 (by decide) bw_j3.1 (by decide)).mono ?_); rintro e w1 ⟨v1, c1, rfl, hf, ht, hzs⟩; clear hzs; rw [bw_t3]; rw [bw_j3.2] at ht; have G_n := Aside0.mk (G.out.step hf (by decide)); have HL_n := Aside0.mk (HL.out.keep hf (by decide)); clear G HL; have G := G_n; have HL := HL_n; clear G_n HL_n; clear HT; have HT := Aside0.mk ht; clear ht hf)
  have HXL := Aside0.mk (show ([] ++ tk bwW3 1).length = 2 from bw_t3)
  generalize [] ++ tk bwW3 1 = xs at *
  go_upto_region 9 with (go_at_call 32; (with_reducible refine (cut_calls HL.out bw_fit3 2).mono ?_); rintro e w1 ⟨rfl, hl, hf⟩; rw [bw_c3]; have G_n := Aside0.mk (G.out.step hf (by decide)); have HT_n := Aside0.mk (TP.keep HT.out G.out hf (by decide) (by decide) (by decide)); clear G HT; have G := G_n; have HT := HT_n; clear G_n HT_n; clear HL; have HL := Aside0.mk (show LO w1 _ gl m g bwW4 from hl); clear hl hf)
  go_upto_region 10 with (go_at_call 15; (with_reducible refine (append_aw HL.out bw_fit4 (Nat.le_trans (bw_b4 _) (by decide)) none 0 none 0).mono ?_); rintro e w1 ⟨rfl, hf, hl⟩; have G_n := Aside0.mk (G.out.step hf (by decide)); have HT_n := Aside0.mk (TP.keep HT.out G.out hf (by decide) (by decide) (by decide)); clear G HT; have G := G_n; have HT := HT_n; clear G_n HT_n; clear HL; have HL := Aside0.mk (show LO w1 _ gl m g bwW5 from hl); clear hl hf)
  go_upto_region 11 with (go_at_call 39; (with_reducible refine (twhole_calls HT.out G.out HL.out bw_fit5 bw_b5 bw_g5 (by decide) (by rw [bw_j5]; decide) (by rw [HXL.out]; decide)).mono ?_); rintro e w1 ⟨v2, c2, rfl, hf, hn⟩; obtain ⟨A2, cp2, hv2⟩ := hn.slice; subst hv2; rw [show (xs ++ scanF bwW5 (2 * 128)).length = 3 by rw [List.length_append, HXL.out, bw_s5]]; have G_n := Aside0.mk (G.out.step hf (by decide)); have HL_n := Aside0.mk (HL.out.keep hf (by decide)); have HT_n := Aside0.mk (TP.keep HT.out G.out hf (by decide) (by decide) (by decide)); clear G HL HT; have G := G_n; have HL := HL_n; have HT := HT_n; clear G_n HL_n HT_n; clear hn hf)
  go_upto_region 12 with (first | (go_at_call 35; (with_reducible refine (tnew_calls G.out).mono ?_); rintro e w1 ⟨gt2, c1, rfl, hf, ht⟩; have G_n := Aside0.mk (G.out.step hf (by decide)); have HL_n := Aside0.mk (HL.out.keep hf (by decide)); have HT_n := Aside0.mk (TP.keep HT.out G.out hf (by decide) (by decide) (by decide)); clear G HL HT; have G := G_n; have HL := HL_n; have HT := HT_n; clear G_n HL_n HT_n; have HT2 := Aside0.mk ht; clear ht hf) | (go_at_call 39; (with_reducible refine (twhole_bad HT2.out HL.out (by rw [bw_j5]; decide)).mono ?_); rintro e w1 ⟨rfl, hb1⟩; clear HT2; have G_n := Aside0.mk (G.out.below hb1); have HL_n := Aside0.mk (HL.out.below hb1); have HT_n := Aside0.mk (TP.below HT.out hb1); clear G HL HT; have G := G_n; have HL := HL_n; have HT := HT_n; clear G_n HL_n HT_n; clear hb1))
  go_wp2_with (first | (go_at_call 37; (with_reducible refine (upto_calls HT.out).mono ?_); rintro e w1 ⟨rfl, hb1⟩; have G_n := Aside0.mk (G.out.below hb1); have HL_n := Aside0.mk (HL.out.below hb1); have HT_n := Aside0.mk (TP.below HT.out hb1); clear G HL HT; have G := G_n; have HL := HL_n; have HT := HT_n; clear G_n HL_n HT_n; clear hb1) | (go_at_call 36; (with_reducible refine (tlist_calls HT.out G.out (by rw [HXL.out]; decide)).mono ?_); rintro e w1 ⟨v3, c3, rfl, hf, hn, ho⟩; obtain ⟨A3, cp3, hv3⟩ := Kd.N_slice hn; subst hv3; rw [HXL.out]; have G_n := Aside0.mk (G.out.step hf (by decide)); have HL_n := Aside0.mk (HL.out.keep hf (by decide)); have HT_n := Aside0.mk (TP.keep HT.out G.out hf (by decide) (by decide) (by decide)); clear G HL HT; have G := G_n; have HL := HL_n; have HT := HT_n; clear G_n HL_n HT_n; clear hn hf ho))
  go_ret
  exact ⟨rfl, G.out.bel⟩
end Go.Proofs.Ytbnglmeljbiglaa.Wl
set_option maxRecDepth 8192
namespace Go.Proofs.Ytbnglmeljbiglaa.X4
open Go.Proofs.Ytbnglmeljbiglaa.Pt Go.Proofs.Ytbnglmeljbiglaa.Ptb Go.Proofs.Ytbnglmeljbiglaa.Rp Go.Proofs.Ytbnglmeljbiglaa.Wl Go Go.RowKit Go.ChangeMaps Go.Proofs.Ytbnglmeljbiglaa.Arr Go.Proofs.Ytbnglmeljbiglaa.Mp Go.Proofs.Ytbnglmeljbiglaa.Ow Go.Proofs.Ytbnglmeljbiglaa.Dk Go.Proofs.Ytbnglmeljbiglaa.Fr Go.Proofs.YtbnglmeljbiglaaW.PrintWords Go.Proofs.YtbnglmeljbiglaaW.PrintLast Go.Proofs.YtbnglmeljbiglaaW.PrintMore
set_option linter.unusedVariables false
set_option linter.unusedSimpArgs false
set_option maxHeartbeats 16000000 in
set_option maxRecDepth 20000 in
theorem tapenil_walk (n : Int) (w : World) : Calls Try.prog 10 #[.int .i64 n] w fun e w' => e = .returned (.bool true) ∧ Below w.heap.size w w' := by
  have G := Aside0.mk (Gr.refl w)
  go_enter Try.func10, Try.ntmps10
  go_upto_region 3 with (go_at_call 38; (with_reducible refine (tadd_nil _ (.inl rfl) _).mono ?_); rintro e w1 ⟨rfl, hb1⟩; have G_n := Aside0.mk (G.out.below hb1); clear G; have G := G_n; clear G_n; clear hb1)
  go_upto_region 4 with (go_at_call 39; (with_reducible refine (twhole_nil _ (.inl rfl) _).mono ?_); rintro e w1 ⟨rfl, hb1⟩; have G_n := Aside0.mk (G.out.below hb1); clear G; have G := G_n; clear G_n; clear hb1)
  go_upto_region 5 with (go_at_call 40; (with_reducible refine (tpage_nil _ _).mono ?_); rintro e w2 ⟨pa, pb, rfl, hb0⟩; have hb1 := Arr.below_trans hb0 ((Below.refl w2.heap.size w2).alloc (Nat.le_refl _) (.cells #[.int .i64 pa, .string pb] 78)); have G_n := Aside0.mk (G.out.below hb1); clear G; have G := G_n; clear G_n; clear hb0 hb1)
  generalize w2.alloc (.cells #[.int .i64 pa, .string pb] 78) = X at *
  go_upto_region 6 with (first | (go_at_call 35; (with_reducible refine (tnew_calls G.out).mono ?_); rintro e w1 ⟨gt, c1, rfl, hf, ht⟩; have G_n := Aside0.mk (G.out.step hf (by decide)); clear G; have G := G_n; clear G_n; clear ht hf) | (go_at_call 38; (with_reducible refine (tadd_none _ _).mono ?_); rintro e w1 ⟨rfl, hb1⟩; have G_n := Aside0.mk (G.out.below hb1); clear G; have G := G_n; clear G_n; clear hb1))
  go_wp2_with (first | (go_at_call 33; (with_reducible refine (awake15_calls _).mono ?_); rintro e w1 ⟨rfl, hb1⟩; have G_n := Aside0.mk (G.out.below hb1); clear G; have G := G_n; clear G_n; clear hb1) | (go_at_call 37; (with_reducible refine (upto_nil _).mono ?_); rintro e w1 ⟨rfl, hb1⟩; have G_n := Aside0.mk (G.out.below hb1); clear G; have G := G_n; clear G_n; clear hb1) | (go_at_call 36; (with_reducible refine (tlist_nil _).mono ?_); rintro e w1 ⟨rfl, hb1⟩; have G_n := Aside0.mk (G.out.below hb1); clear G; have G := G_n; clear G_n; clear hb1) | (go_at_call 41; (with_reducible refine (tcopy_nil _).mono ?_); rintro e w1 ⟨rfl, hb1⟩; have G_n := Aside0.mk (G.out.below hb1); clear G; have G := G_n; clear G_n; clear hb1))
  go_ret
  exact ⟨rfl, G.out.bel⟩
def careenlaw15_TapeNil.f (a0 : Int) : Option Bool := some true
theorem careenlaw15_TapeNil.calls (a0 : Int) (r : Bool) (w : World) (h : careenlaw15_TapeNil.f a0 = some r) :
    Calls Try.prog 10 #[.int .i64 a0] w fun e w' => e = .returned (.bool r) ∧ Below w.heap.size w w' := by
  obtain rfl := Option.some.inj h
  exact tapenil_walk a0 w
end Go.Proofs.Ytbnglmeljbiglaa.X4
namespace Go.Proofs.Ytbnglmeljbiglaa.X4.RowTapeNil
open Go.ChangeShapes Go.WideShapes Go.ChangeAt Go.RowKit Go.Proofs.Ytbnglmeljbiglaa.Opens Go.Proofs.YtbnglmeljbiglaaW.PrintWords
open Go.ChangeMaps (open_string shut_string)
set_option linter.unusedVariables false
theorem own : ownKnob Try.prog.godebug = none := by kernel_rfl
theorem laidOut : laidOutB Try.prog = true := by kernel_rfl
/-- The statement, over plain values. -/
def Pure : Prop := ∀ (x0 : Int), (Lit.int .i64 x0).wf = true → ∃ k : Nat, careenlaw15_TapeNil.f x0 = some true
set_option maxRecDepth 100000 in
theorem lifted (PU : Pure) (os : Os) (started : os.Started) (H : Type) (enc : TypeId × Value → H) :
    ReturnsInHanded {} Try.checked os 10 .any (Rows.tapeNilSpec.pre6 enc Try.prog Try.f10 Rows.tapeNilRow.domain false) (Rows.tapeNilSpec.post enc Try.prog Try.f10 false true false false) := by
  refine returnsInHanded_of_change_sized (C := Try.checked) own started (by kernel_rfl) Try.func10
    (ChangeSpec.witness6 (enc := enc) (C := Try.checked) false ⟨#[], #[.int .i64 0], []⟩ 8 (by kernel_rfl) (by kernel_rfl) (by kernel_rfl) (by kernel_rfl)) ?_
  intro W base args ds gs before hval0 hW hcnd hsz0 _
  have hsz : (DataW.weightsEach Try.prog (Try.f10.params.toList ++ Rows.tapeNilSpec.plain.varTypes Try.prog) (ds ++ gs)).all (· ≤ reachBytes) = true := hsz0
  have hval : ∀ (j : Nat) t v, Try.f10.params[j]? = some t → args[j]? = some v → Value.okWide Try.prog W .any base t v := hval0
  have hW' := hW
  obtain ⟨p, q, hA0, hV, rfl, hfz, hnd⟩ := hW
  have hA : DataW.TrodAll enc Try.prog W 0 (fun _ => true) true Try.f10.params.toList args.toList ds p := hA0
  rw [Try.params10] at hA hval hsz
  obtain ⟨v0, vs0, d0, ds0, p0, q0, hargs, rfl, rfl, h0, r0⟩ := trodAll_cons hA
  obtain ⟨rfl, rfl, rfl⟩ := trodAll_nil r0
  obtain rfl : args = #[v0] := by cases args; simp_all
  obtain ⟨rfl, rfl⟩ := trodVars_none hV
  have kk0 := h0
  have lt0 : ∀ x ∈ p0, x.block < W.heap.size := by obtain ⟨m, hm⟩ := kk0; exact DataW.trod_lt m _ _ _ hm
  obtain ⟨x0, hk0, w0⟩ : ∃ x, (Kd.int .i64).K W x v0.cells.toList ∧ (Lit.int .i64 x).wf = true := by
    obtain ⟨fuel, hf⟩ := h0
    exact (opens_int Try.underlying3) hf (fun n hn => by simpa using List.all_eq_true.1 hsz n (DataW.weights_mem_each (j := 0) (t := 3) (d := d0) rfl rfl n hn))
  obtain ⟨z0, rfl⟩ := okWide_int Try.underlying3 (hval 0 3 v0 rfl rfl)
  obtain rfl : z0 = x0 := by
    have e : [Value.int .i64 z0] = [Value.int .i64 x0] := hk0
    simpa using e
  clear hA0 hval0 hsz0 hsz
  obtain ⟨k, h⟩ := PU z0 w0
  refine (careenlaw15_TapeNil.calls (a0 := z0) (r := true) (w := W)  (h := h)).mono fun e W' ⟨he, bel0⟩ => ?_
  have bel : Below W.heap.size W W' := bel0
  subst he
  exact ⟨_, rfl, _, _, _, [], _, [], hW', trodAll_mk1 (shut_bool Try.underlying4 _), (trodAll_cons_mk (Below.trod laidOut (by kernel_rfl) (of_decide_eq_true (by kernel_rfl)) kk0 bel lt0) trodAll_mk0), rfl, bel.frame _, fun h => by cases h⟩
/-- The row follows from the plain statement. -/
theorem holds (PU : Pure) : Rows.TapeNilSaid :=
  OpenClaim.holds_of_wide 10 Try.f10 rfl rfl rfl rfl rfl rfl rfl ⟨rfl, rfl, rfl, rfl, rfl⟩ rfl rfl rfl rfl rfl (by kernel_rfl) Try.func10 (by kernel_rfl)
    (of_decide_eq_true (by kernel_rfl)) (by unfold Func.isWrapper; first | (rw [if_pos (by decide +kernel)]; kernel_rfl) | (rw [if_neg (by decide +kernel)]; exact ⟨rfl, rfl⟩))
    (fun os started H enc _ => lifted PU os started H enc)
end Go.Proofs.Ytbnglmeljbiglaa.X4.RowTapeNil
set_option maxRecDepth 8192
namespace Go.Proofs.Ytbnglmeljbiglaa.X4
open Go.Proofs.Ytbnglmeljbiglaa.Pt Go.Proofs.Ytbnglmeljbiglaa.Ptb Go.Proofs.Ytbnglmeljbiglaa.Rp Go.Proofs.Ytbnglmeljbiglaa.Wl Go Go.RowKit Go.ChangeMaps Go.Proofs.Ytbnglmeljbiglaa.Arr Go.Proofs.Ytbnglmeljbiglaa.Mp Go.Proofs.Ytbnglmeljbiglaa.Ow Go.Proofs.Ytbnglmeljbiglaa.Dk Go.Proofs.Ytbnglmeljbiglaa.Fr Go.Proofs.YtbnglmeljbiglaaW.PrintWords Go.Proofs.YtbnglmeljbiglaaW.PrintLast Go.Proofs.YtbnglmeljbiglaaW.PrintMore
set_option linter.unusedVariables false
set_option linter.unusedSimpArgs false
namespace L15
def longF (l : List S71) : Bool := l.any (fun x => !fewB x.f2 || decide (200 < x.f3.length)) || decide (200 < l.length)
theorem rd_mem {l : List S71} {k : Nat} (h : k < l.length) : rd_T71 l k ∈ l := by
  unfold rd_T71
  rw [Int.toNat_natCast, List.getD_eq_getElem?_getD, List.getElem?_eq_getElem h]
  exact List.getElem_mem h
theorem long_yes {l : List S71} {x : S71} (hx : x ∈ l) (h : fewB x.f2 = false ∨ 200 < x.f3.length) : longF l = true := by
  unfold longF
  rw [Bool.or_eq_true, List.any_eq_true]
  refine .inl ⟨x, hx, ?_⟩
  rw [Bool.or_eq_true]
  rcases h with h | h
  · exact .inl (by rw [h]; rfl)
  · exact .inr (decide_eq_true h)
theorem long_len {l : List S71} (h : ∀ k, k < l.length → fewB (rd_T71 l (k : Nat)).f2 = true ∧ (rd_T71 l (k : Nat)).f3.length ≤ 200) : longF l = decide (200 < l.length) := by
  have h1 : (l.any fun x => !fewB x.f2 || decide (200 < x.f3.length)) = false := by
    rw [List.any_eq_false]
    intro x hx
    obtain ⟨k, hk, e⟩ := List.mem_iff_getElem.1 hx
    have e2 : rd_T71 l (k : Nat) = x := by
      unfold rd_T71
      rw [Int.toNat_natCast, List.getD_eq_getElem?_getD, List.getElem?_eq_getElem hk]
      exact e
    have := h k hk
    rw [e2] at this
    rw [this.1, decide_eq_false (by omega)]
    decide
  unfold longF
  rw [h1, Bool.false_or]
set_option maxHeartbeats 8000000 in
theorem long_calls (A0 : Option Addr) (c0 : Nat) (l : List S71) (w : World) (hr : Kd.C k71 w A0 l.length l) (hc : l.length ≤ c0) : Calls Try.prog 34 #[.slice A0 l.length c0] w fun e w' => e = .returned (.bool (longF l)) ∧ Below w.heap.size w w' := by
  have H0 := Aside0.mk hr; have HM := Aside0.mk (Kd.C_max hr)
  clear hr hc
  have HB := Aside0.mk (Below.refl w.heap.size w)
  go_enter Try.func34, Try.ntmps34
  go_upto_region 2 with (fail)
  go_loopw [7] (fun v wr => ∃ r : Nat, v = .int .i64 r ∧ Aside0 (r ≤ l.length) ∧ Aside0 (∀ k, k < r → fewB (rd_T71 l (k : Nat)).f2 = true ∧ (rd_T71 l (k : Nat)).f3.length ≤ 200) ∧ Aside0 (Below w.heap.size w wr)) (fun v _ => l.length - (intOf v).toNat)
  case atStart => exact ⟨0, rfl, ⟨Nat.zero_le _⟩, ⟨fun k hk => absurd hk (Nat.not_lt_zero _)⟩, HB⟩
  case round =>
    clear HB
    obtain ⟨r, rfl, HR, HF, HB⟩ := hrel
    by_cases hlt : r < l.length
    · have hlt1 : (r : Int) < (l.length : Int) := by omega
      have hwk : wrap64 ((r : Int) + 1) = ((r + 1 : Nat) : Int) := by have := HM.out; unfold wrap64; omega
      have HLT := Aside0.mk hlt
      obtain ⟨ad, A11, c11, A12, c12, A13, c13, hA, q0, q1, q2, q3, q4, q5, q6, q7, q8, q9, q10, q11, q12, q13, l11, g11, l12, g12, l13, g13⟩ := at_T71 H0.out (r : Int) (by omega) hlt1
      subst hA
      rw [Int.toNat_natCast] at q0 q1 q2 q3 q4 q5 q6 q7 q8 q9 q10 q11 q12 q13
      replace q0 := pw_cell_below HB.out q0
      replace q1 := pw_cell_below HB.out q1
      replace q2 := pw_cell_below HB.out q2
      replace q3 := pw_cell_below HB.out q3
      replace q4 := pw_cell_below HB.out q4
      replace q5 := pw_cell_below HB.out q5
      replace q6 := pw_cell_below HB.out q6
      replace q7 := pw_cell_below HB.out q7
      replace q8 := pw_cell_below HB.out q8
      replace q9 := pw_cell_below HB.out q9
      replace q10 := pw_cell_below HB.out q10
      replace q11 := pw_cell_below HB.out q11
      replace q12 := pw_cell_below HB.out q12
      replace q13 := pw_cell_below HB.out q13
      have G11 := Aside0.mk g11; have G12 := Aside0.mk g12; have L11 := Aside0.mk l11; have L12 := Aside0.mk l12; have HMEM := Aside0.mk (rd_mem hlt)
      clear l11 g11 l12 g12 l13 g13
      generalize ho : rd_T71 l (r : Nat) = o_ at *
      have HO := Aside0.mk ho
      clear ho
      go_upto_region 4 with (fail)
      have hba := (Below.refl wr.heap.size wr).alloc (Nat.le_refl _) (.cells #[.int .i64 o_.f0, .int .i64 o_.f1, .int .i64 o_.f2.f0, .int .i64 o_.f2.f1, .int .i64 o_.f2.f2, .int .i64 o_.f2.f3, .int .i64 o_.f2.f4, .int .i64 o_.f2.f5, .int .i64 o_.f2.f6, .string o_.f2.f7, .string o_.f2.f8, .slice A11 o_.f2.f9.length c11, .slice A12 o_.f2.f10.length c12, .slice A13 o_.f3.length c13] 71)
      have HT := Aside0.mk (heap_alloc_new wr (.cells #[.int .i64 o_.f0, .int .i64 o_.f1, .int .i64 o_.f2.f0, .int .i64 o_.f2.f1, .int .i64 o_.f2.f2, .int .i64 o_.f2.f3, .int .i64 o_.f2.f4, .int .i64 o_.f2.f5, .int .i64 o_.f2.f6, .string o_.f2.f7, .string o_.f2.f8, .slice A11 o_.f2.f9.length c11, .slice A12 o_.f2.f10.length c12, .slice A13 o_.f3.length c13] 71))
      have HB1 := Aside0.mk (Arr.below_trans HB.out hba)
      clear hba HB q0 q1 q2 q3 q4 q5 q6 q7 q8 q9 q10 q11 q12 q13
      generalize wr.alloc (.cells #[.int .i64 o_.f0, .int .i64 o_.f1, .int .i64 o_.f2.f0, .int .i64 o_.f2.f1, .int .i64 o_.f2.f2, .int .i64 o_.f2.f3, .int .i64 o_.f2.f4, .int .i64 o_.f2.f5, .int .i64 o_.f2.f6, .string o_.f2.f7, .string o_.f2.f8, .slice A11 o_.f2.f9.length c11, .slice A12 o_.f2.f10.length c12, .slice A13 o_.f3.length c13] 71) = W4 at *
      generalize wr.heap.size = ob at *
      have q0 : W4.cell? ⟨ob, 0, none⟩ = some (.int .i64 o_.f0) := blk_cell HT.out 0
      have q1 : W4.cell? ⟨ob, 1, none⟩ = some (.int .i64 o_.f1) := blk_cell HT.out 1
      have q2 : W4.cell? ⟨ob, 2, none⟩ = some (.int .i64 o_.f2.f0) := blk_cell HT.out 2
      have q3 : W4.cell? ⟨ob, 3, none⟩ = some (.int .i64 o_.f2.f1) := blk_cell HT.out 3
      have q4 : W4.cell? ⟨ob, 4, none⟩ = some (.int .i64 o_.f2.f2) := blk_cell HT.out 4
      have q5 : W4.cell? ⟨ob, 5, none⟩ = some (.int .i64 o_.f2.f3) := blk_cell HT.out 5
      have q6 : W4.cell? ⟨ob, 6, none⟩ = some (.int .i64 o_.f2.f4) := blk_cell HT.out 6
      have q7 : W4.cell? ⟨ob, 7, none⟩ = some (.int .i64 o_.f2.f5) := blk_cell HT.out 7
      have q8 : W4.cell? ⟨ob, 8, none⟩ = some (.int .i64 o_.f2.f6) := blk_cell HT.out 8
      have q9 : W4.cell? ⟨ob, 9, none⟩ = some (.string o_.f2.f7) := blk_cell HT.out 9
      have q10 : W4.cell? ⟨ob, 10, none⟩ = some (.string o_.f2.f8) := blk_cell HT.out 10
      have q11 : W4.cell? ⟨ob, 11, none⟩ = some (.slice A11 o_.f2.f9.length c11) := blk_cell HT.out 11
      have q12 : W4.cell? ⟨ob, 12, none⟩ = some (.slice A12 o_.f2.f10.length c12) := blk_cell HT.out 12
      have q13 : W4.cell? ⟨ob, 13, none⟩ = some (.slice A13 o_.f3.length c13) := blk_cell HT.out 13
      cases hf : fewB o_.f2 with
      | false =>
        have HFW := Aside0.mk hf
        have HY := Aside0.mk (long_yes HMEM.out (.inl hf))
        clear hf
        go_wp2_with (go_at_call 22; (with_reducible refine (few_calls o_.f2 A11 c11 A12 c12 _ (Kd.C_below G11.out HB1.out) L11.out (Kd.C_below G12.out HB1.out) L12.out).mono ?_); rintro e w1 ⟨rfl, hb1⟩; rw [HFW.out]; have HB2 := Aside0.mk (Arr.below_trans HB1.out hb1); clear hb1)
        go_ret
        exact ⟨by rw [HY.out]; rfl, HB2.out⟩
      | true =>
        have HFW := Aside0.mk hf
        clear hf
        by_cases hz : 200 < o_.f3.length
        · have HY := Aside0.mk (long_yes HMEM.out (.inr hz))
          have z1 : decide ((200 : Int) < (o_.f3.length : Int)) = true := decide_eq_true (by omega)
          have z2 : ((200 : Int) < (o_.f3.length : Int)) = True := eq_true (by omega)
          clear hz
          go_wp2_with (go_at_call 22; (with_reducible refine (few_calls o_.f2 A11 c11 A12 c12 _ (Kd.C_below G11.out HB1.out) L11.out (Kd.C_below G12.out HB1.out) L12.out).mono ?_); rintro e w1 ⟨rfl, hb1⟩; rw [HFW.out]; have HB2 := Aside0.mk (Arr.below_trans HB1.out hb1); have q13 : w1.cell? ⟨ob, 13, none⟩ = some (.slice A13 o_.f3.length c13) := pw_cell_below hb1 q13; clear hb1)
          go_ret
          exact ⟨by rw [HY.out]; rfl, HB2.out⟩
        · have z1 : decide ((200 : Int) < (o_.f3.length : Int)) = false := decide_eq_false (by omega)
          have z2 : ((200 : Int) < (o_.f3.length : Int)) = False := eq_false (by omega)
          have hfn : ∀ k, k < r + 1 → fewB (rd_T71 l (k : Nat)).f2 = true ∧ (rd_T71 l (k : Nat)).f3.length ≤ 200 := fun k hk => by
            by_cases e : k = r
            · rw [e, HO.out]; exact ⟨HFW.out, by omega⟩
            · exact HF.out k (by omega)
          have HF2 := Aside0.mk hfn
          clear hz hfn
          go_wp2_with (go_at_call 22; (with_reducible refine (few_calls o_.f2 A11 c11 A12 c12 _ (Kd.C_below G11.out HB1.out) L11.out (Kd.C_below G12.out HB1.out) L12.out).mono ?_); rintro e w1 ⟨rfl, hb1⟩; rw [HFW.out]; have HB2 := Aside0.mk (Arr.below_trans HB1.out hb1); have q13 : w1.cell? ⟨ob, 13, none⟩ = some (.slice A13 o_.f3.length c13) := pw_cell_below hb1 q13; clear hb1)
          go_roundw
          case rel => exact ⟨r + 1, by first | rfl | (rw [hwk]) | go_num, ⟨by have := HLT.out; omega⟩, HF2, HB2⟩
          case measure =>
            have := HLT.out
            (try rw [hwk])
            show l.length - (intOf (.int .i64 ((r + 1 : Nat) : Int))).toNat < l.length - (intOf (.int .i64 (r : Int))).toNat
            simp only [intOf]; omega
    · obtain rfl : r = l.length := by have := HR.out; omega
      have HY := Aside0.mk (long_len HF.out)
      clear hlt
      go_wp2
      go_ret
      refine ⟨?_, HB.out⟩
      rw [HY.out]
      first | rfl | (refine congrArg (fun b => Ending.returned (Value.bool b)) (decide_eq_decide.2 ⟨fun h => by omega, fun h => by omega⟩))
theorem long_no {l : List S71} (h : longF l = false) : l.length ≤ 200 ∧ ∀ x ∈ l, fewB x.f2 = true ∧ x.f3.length ≤ 200 := by
  unfold longF at h
  rw [Bool.or_eq_false_iff, List.any_eq_false, decide_eq_false_iff_not] at h
  refine ⟨by omega, fun x hx => ?_⟩
  have := h.1 x hx
  simp only [Bool.not_eq_true, Bool.or_eq_false_iff, Bool.not_eq_false', decide_eq_false_iff_not] at this
  exact ⟨this.1, by omega⟩
end L15
theorem tw_mem {α : Type} {p : α → Bool} {l : List α} {x : α} (h : x ∈ l.takeWhile p) : p x = true ∧ x ∈ l := by
  induction l with
  | nil => simp at h
  | cons a t ih =>
    rw [List.takeWhile_cons] at h
    split at h
    · rename_i hp
      rcases List.mem_cons.1 h with rfl | h
      · exact ⟨hp, List.mem_cons_self ..⟩
      · exact ⟨(ih h).1, List.mem_cons_of_mem _ (ih h).2⟩
    · cases h
theorem tw_len {α : Type} (p : α → Bool) (l : List α) : (l.takeWhile p).length ≤ l.length := by
  induction l with
  | nil => simp
  | cons a t ih =>
    rw [List.takeWhile_cons]
    split
    · rw [List.length_cons, List.length_cons]; omega
    · simp
/-- What is on a tape: safe in the log. -/
def OnT (W : WS) (xs : List En_) : Prop := ∀ x ∈ xs, safeW W x.f0 = true ∧ (0 ≤ x.f0 ∧ x.f0 < 9000000000000000) ∧ okE x
theorem OnT.more {W W' : WS} {xs : List En_} (h : OnT W xs) (hf : W.first ≤ W'.first) : OnT W' xs := fun x hx => by
  obtain ⟨h1, h2, h3⟩ := h x hx
  refine ⟨?_, h2, h3⟩
  unfold safeW at h1 ⊢
  rw [decide_eq_true_iff] at h1 ⊢
  omega
theorem OnT.add {W : WS} {xs : List En_} (h : OnT W xs) (F : Fit W) (hbd : ∀ i, (bdy W i).size ≤ 112) (hg : W.op - W.low ≤ 1000) (E : Int) : OnT W (xs ++ tk W E) := fun x hx => by
  rcases List.mem_append.1 hx with hx | hx
  · exact h x hx
  · obtain ⟨h1, h2⟩ := tw_mem hx
    exact ⟨h1, scan_at F hbd hg _ x h2, scan_ok W _ x h2⟩
theorem tk_len {W : WS} (hbd : ∀ i, (bdy W i).size ≤ 112) (hg : W.op - W.low ≤ 1000) (E : Int) : (tk W E).length ≤ 1000000 := Nat.le_trans (tw_len _ _) (scan_len W hbd hg _)
theorem was_keep {M : List Nat} {w0 w w' : World} {c c' : Nat → Nat} {gt : Nat} {E : Int} {v v' : Value} {xs ys : List En_} (h : Kd.N X4.k44 44 w w0.heap.size (fun k => okC w0.heap.size c 5 k ∧ some k ≠ v.ownBlock) v' xs) (G : Gr w0 w c) (ht : TP w0 w c gt E v ys) (hf : Fr M w c w' c') (hz : ZS w w' gt v) : NL X4.k44 44 w0.heap.size w' c' 5 v' xs := by
  have h1 := Kd.N_step (Kd.N_bound h) (fun k hk hlt => hz k hlt (fun e1 => by
    have h8 := ht.blk.col
    subst e1
    rcases hk.1.1 with h2 | h2
    · have h3 := G.olds k h2; omega
    · omega) hk.1.2)
  exact Kd.N_mono h1 (fun k hk => by
    rcases hk.1.1 with h2 | h2
    · exact .inl h2
    · exact .inr ((hf.col k hk.2).trans h2))
end Go.Proofs.Ytbnglmeljbiglaa.X4
