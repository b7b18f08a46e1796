import Derived.Test.YtbnglmeljbiglaaRows
import Derived.WalkKit
import Derived.ProofKit
import Derived.OpenShut
import Derived.ShutString
import Derived.ChangeOld
import Derived.Below
import Derived.SizedLaws
import Derived.Test.YtbnglmeljbiglaaQDZ0
import Derived.Test.YtbnglmeljbiglaaQDZ1
import Derived.Test.YtbnglmeljbiglaaQDZ2
import Derived.Test.YtbnglmeljbiglaaQDZ3
import Derived.Test.YtbnglmeljbiglaaQDZ4
import Derived.Test.YtbnglmeljbiglaaQDZ5
import Derived.Test.YtbnglmeljbiglaaQDZ6
import Derived.Test.YtbnglmeljbiglaaQDZ7
import Derived.Test.YtbnglmeljbiglaaQDZ8
import Derived.Test.YtbnglmeljbiglaaQDZ9
import Derived.Test.YtbnglmeljbiglaaQDZ10
import Derived.Test.YtbnglmeljbiglaaQDZ11
import Derived.Test.YtbnglmeljbiglaaQDZ12
import Derived.Test.YtbnglmeljbiglaaQDZ13
import Derived.Test.YtbnglmeljbiglaaQDZ14
import Derived.Test.YtbnglmeljbiglaaQDZ15
import Derived.Test.YtbnglmeljbiglaaQDZ16
import Derived.Test.YtbnglmeljbiglaaQDZ17
import Derived.Test.YtbnglmeljbiglaaQDZ18
import Derived.Test.YtbnglmeljbiglaaQDZ19
set_option maxRecDepth 8192
namespace Go.Proofs.Ytbnglmeljbiglaa.Wl
open Go.Proofs.Ytbnglmeljbiglaa.Rgn
open Go Go.RowKit Go.ChangeMaps Go.Proofs.Ytbnglmeljbiglaa.Arr Go.Proofs.Ytbnglmeljbiglaa.Mp Go.Proofs.Ytbnglmeljbiglaa.Ow Go.Proofs.Ytbnglmeljbiglaa.Dk Go.Proofs.Ytbnglmeljbiglaa.Fr Go.Proofs.YtbnglmeljbiglaaW.PrintWords Go.Proofs.YtbnglmeljbiglaaW.PrintLast Go.Proofs.YtbnglmeljbiglaaW.PrintMore
set_option linter.unusedVariables false
set_option linter.unusedSimpArgs false
section
variable {w : World} {c : Nat → Nat} {gl m g N : Nat} {W : WS} {d : DS}
theorem dwrite_o (h : DK w (Col c 1) g d) (ho : OkN N d) (i : Int) (s : ByteArray) : Calls Try.prog 48 #[.pointer (some ⟨g, 0, none⟩), .int .i64 i, .string s] w fun x w' => x = .returned (.int .i64 (writeE d i s)) ∧ ∃ c', Fr [1] w c w' c' ∧ DK w' (Col c' 1) g (writeD d i s) := by
  refine (write_calls d g i s (Col (Dk.paint c w.heap.size 1) 1) w (top_paint c w 1) (h.mono fun k hk e => (paint_old hk).trans e) ho.ok).mono ?_
  rintro x w' ⟨rfl, hk, hf⟩
  exact ⟨rfl, _, fr_disk hf, hk⟩
theorem dsync_o (h : DK w (Col c 1) g d) (ho : OkN N d) : Calls Try.prog 50 #[.pointer (some ⟨g, 0, none⟩)] w fun x w' => x = .returned (.int .i64 (syncE d)) ∧ ∃ c', Fr [1] w c w' c' ∧ DK w' (Col c' 1) g (syncD d) := by
  refine (sync_calls d g (Col (Dk.paint c w.heap.size 1) 1) w (top_paint c w 1) (h.mono fun k hk e => (paint_old hk).trans e) ho.ok).mono ?_
  rintro x w' ⟨rfl, hk, hf⟩
  exact ⟨rfl, _, fr_disk hf, hk⟩
/-- The bytes of a sector of the log. -/
def secW (W : WS) (i : Int) : ByteArray := (X12.packI W.ep i (bdy W i)).1
/-- The writes of a Flush: the error, the next sector, the disk. -/
def flushL (W : WS) : Nat → Int → DS → Int × Int × DS
  | 0, i, d => (0, i, d)
  | k + 1, i, d => if i ≤ W.op ∧ bdy W i ≠ ⟨#[]⟩ then (if writeE d (placeW W i) (secW W i) ≠ 0 then (writeE d (placeW W i) (secW W i), i, writeD d (placeW W i) (secW W i)) else flushL W k (i + 1) (writeD d (placeW W i) (secW W i))) else (0, i, d)
def flushR (W : WS) (d : DS) : Int × Int × DS := flushL W (W.op + 1 - W.first).toNat W.first d
/-- What Flush does: the error, the log, the disk. -/
def flushW (W : WS) (d : DS) : Int × WS × DS :=
  if (flushR W d).1 ≠ 0 then ((flushR W d).1, W, (flushR W d).2.2)
  else if (flushR W d).2.1 = W.first then (0, W, (flushR W d).2.2)
  else if syncE (flushR W d).2.2 ≠ 0 then (syncE (flushR W d).2.2, W, syncD (flushR W d).2.2)
  else (0, { W with first := (flushR W d).2.1, op := (flushR W d).2.1 }, syncD (flushR W d).2.2)
theorem pack_fine {e i : Int} {b : ByteArray} (he : 0 ≤ e ∧ e < 4294967296) (hi : 0 ≤ i ∧ i < 4294967296) (hb : b.size ≤ 112) : X12.packI e i b = ((X12.packI e i b).1, 0) := by
  rw [← (X12.packI_bl e i b he hi hb).2]
set_option maxHeartbeats 16000000 in
theorem flush_calls (h : LO w c gl m g W) (hd : DK w (Col c 1) g d) (ho : OkN N d) (hN : N ≤ 1000) (F : Fit W) (hbd : ∀ i, (bdy W i).size ≤ 112) (hop : W.op ≤ 100000000) (hgap : W.first ≤ W.op + 1 ∧ W.op - W.first ≤ 1000) :
    Calls Try.prog 16 #[.pointer (some ⟨gl, 0, none⟩)] w fun e w' => e = .returned (.int .i64 (flushW W d).1) ∧ ∃ c', Fr [1, 3] w c w' c' ∧ LO w' c' gl m g (flushW W d).2.1 ∧ DK w' (Col c' 1) g (flushW W d).2.2 ∧ OkN (N + 1100) (flushW W d).2.2 := by
  have HL := Aside0.mk h; have HD := Aside0.mk hd; have HO := Aside0.mk ho; have HNN := Aside0.mk hN; have HF := Aside0.mk F; have HBD := Aside0.mk hbd; have HOP := Aside0.mk hop; have HGP := Aside0.mk hgap
  have FR := Aside0.mk (Fr.refl [1] w c)
  have c4 := h.c4
  clear h hd ho hN F hbd hop hgap
  obtain ⟨Re, Rn, Rd, hR⟩ : ∃ a b e, flushR W d = (a, b, e) := ⟨_, _, _, rfl⟩
  have HR := Aside0.mk hR
  have HRL := Aside0.mk (show flushL W (W.op + 1 - W.first).toNat W.first d = (Re, Rn, Rd) from hR)
  clear hR
  have HK0 := Aside0.mk (show (((W.op + 1 - W.first).toNat : Nat) : Int) = W.op + 1 - W.first by have := HGP.out; omega)
  go_enter Try.func16, Try.ntmps16
  go_upto_region 4 with (fail)
  clear c4
  go_loopw [3] (fun nv wr => ∃ (j k : Nat) (dk : DS) (c' : Nat → Nat), nv = .int .i64 (W.first + j) ∧ Aside0 (j + k = (W.op + 1 - W.first).toNat) ∧ Aside0 (LO wr c' gl m g W) ∧ Aside0 (DK wr (Col c' 1) g dk) ∧ Aside0 (Fr [1] w c wr c') ∧ Aside0 (OkN (N + j) dk) ∧ Aside0 (flushL W k (W.first + j) dk = (Re, Rn, Rd))) (fun nv _ => (W.op + 1).toNat - (intOf nv).toNat)
  case atStart => exact ⟨0, (W.op + 1 - W.first).toNat, d, c, by rw [show W.first + ((0 : Nat) : Int) = W.first by omega], ⟨by omega⟩, HL, HD, FR, ⟨HO.out⟩, ⟨by rw [show W.first + ((0 : Nat) : Int) = W.first by omega]; exact HRL.out⟩⟩
  case round =>
    clear HL HD FR HO HRL
    obtain ⟨j, k, dk, c1, rfl, JK, HL, HD, FR, HO, HRL⟩ := hrel
    have HI := Aside0.mk (show 0 ≤ W.first + (j : Int) ∧ W.first + (j : Int) ≤ W.op + 1 by have := HF.out.first; have := JK.out; have := HK0.out; omega)
    have c5 := HL.out.c5; have c7 := HL.out.c7
    have hl := run_lookup0 HL.out.map (W.first + j)
    obtain ⟨i, hi⟩ : ∃ i : Int, i = W.first + (j : Int) := ⟨_, rfl⟩
    rw [← hi] at HI HRL hl ⊢
    have HIJ := Aside0.mk hi
    clear hi
    obtain ⟨b, hb⟩ : ∃ b, b = bdy W i := ⟨_, rfl⟩
    have HBI := Aside0.mk hb
    rw [show (W.f i).getD ⟨#[]⟩ = b from hb.symm] at hl
    clear hb
    by_cases hgo : i ≤ W.op ∧ b ≠ ⟨#[]⟩
    · obtain ⟨h1, h2⟩ := hgo
      have HLE := Aside0.mk h1; have HNE := Aside0.mk h2
      have t0 : b.toList.isEmpty = false := by rw [empty_iff, decide_eq_false h2]
      obtain ⟨k, rfl⟩ : ∃ q, k = q + 1 := ⟨k - 1, by have := JK.out; have := HK0.out; have := HIJ.out; omega⟩
      clear h2
      go_upto_region 6 with (fail)
      have HL1 := Aside0.mk HL.out.drew; have HD1 := Aside0.mk HD.out.drew; have FR1 := Aside0.mk (FR.out.trans (fr_drew [1] wr c1))
      clear HL HD FR c5 c7 hl h1
      have c6 := HL1.out.c6; have c7 := HL1.out.c7
      have HWI := Aside0.mk (show IntKind.u32.wrap i = i by rw [IntKind.wrap_u32]; exact Int.emod_eq_of_lt HI.out.1 (by have := HLE.out; have := HOP.out; omega))
      refine start_ (n := 19) (S := fun w' => w'.cell? ⟨gl, 6, none⟩ = some (.int .u32 W.ep) ∧ w'.cell? ⟨gl, 7, none⟩ = some (.map (some m))) (ds := []) #[false, false, false, false, false, false, false, false, false, false, false, false, false, false, false, false, false, false, false] (by kernel_rfl) rfl rfl ⟨c6, c7⟩ (fun hHeld => ?_)
      refine rgp 0 31 ?_
      refine rgp 1 32 ?_
      refine rgp 2 33 ?_
      refine rgp 4 35 ?_
      refine rgp 5 36 ?_
      refine rgp 6 37 ?_
      refine rgp 7 38 ?_
      refine rgp 8 39 ?_
      refine rgp 10 41 ?_
      refine rgt 3 34 hHeld ?_
      refine rgt 9 40 hHeld ?_
      refine one_ (i := 11) (N := some 42) #[true, true, true, true, true, true, true, true, true, true, true, true, false, false, false, false, false, false, false] rfl rfl (by kernel_rfl) (by decide) (fun K hK => ?_)
      generalize wr.drew = X0_ at *
      have hl := run_lookup0 HL1.out.map i
      rw [show (W.f i).getD ⟨#[]⟩ = b from HBI.out.symm] at hl
      refine value_ (w1 := ?_) (v := ?_) (by kernel_rfl) rfl ?_ ?_
      rotate_left 2
      · go_simp
        constructor
        · rfl
        · rfl
      refine hK _ _ hHeld (fun hHeld => ?_)
      clear hK K hl
      refine norm_ (a' := ?_) ?_ ?_
      rotate_left
      · show Act.put _ (some 42) _ = _
        simp only [Act.put, List.setIfInBounds_toArray, List.set_cons_zero, List.set_cons_succ, i64_w, i32_w]
        rfl
      refine rgp 12 43 ?_
      refine one_ (i := 13) (N := some 44) #[true, true, true, true, true, true, true, true, true, true, true, true, true, true, false, false, false, false, false] rfl rfl (by kernel_rfl) (by decide) (fun K hK => ?_)
      refine goes_ Try.func47 (by kernel_rfl) rfl #[.agg #[.int .u32 W.ep, .int .u32 (IntKind.u32.wrap i), .string b]] (by rfl) rfl rfl (by (try simp only [List.map_toArray, List.map_cons, List.map_nil]); first | done | rfl) ?_
      rw [HWI.out]
      refine (X12.pack_calls W.ep i b HF.out.ep ⟨HI.out.1, by have := HLE.out; have := HOP.out; omega⟩ _).mono ?_
      rintro e v1_ ⟨rfl, hb1⟩
      rw [pack_fine HF.out.ep ⟨HI.out.1, by have := HLE.out; have := HOP.out; omega⟩ (by rw [HBI.out]; exact HBD.out i)]
      refine ⟨_, rfl, ?_⟩
      have HL2 := Aside0.mk (HL1.out.below hb1); have HD2 := Aside0.mk (HD1.out.below hb1); have FR2 := Aside0.mk (FR1.out.trans (Fr.of_below (M := [1]) hb1))
      clear HL1 HD1 FR1 hb1
      refine hK _ _ ⟨HL2.out.c6, HL2.out.c7⟩ (fun hHeld => ?_)
      clear hK K
      refine norm_ (a' := ?_) ?_ ?_
      rotate_left
      · show Act.put _ (some 44) _ = _
        simp only [Act.put, List.setIfInBounds_toArray, List.set_cons_zero, List.set_cons_succ, i64_w, i32_w]
        rfl
      refine rgp 14 30 ?_
      refine rgp 15 45 ?_
      refine rgp 16 46 ?_
      refine rgp 17 4 ?_
      refine rgp 18 5 ?_
      refine done_ (by kernel_rfl) ?_
      clear hHeld c6 c7
      have HSW := Aside0.mk (show (X12.packI W.ep i b).1 = secW W i by unfold secW; rw [HBI.out])
      simp only [HSW.out]
      have hff := HRL.out
      unfold flushL at hff
      rw [if_pos ⟨HLE.out, by rw [← HBI.out]; exact HNE.out⟩] at hff
      generalize secW W i = s at *
      go_upto_region 8 with (fail)
      have HL3 := Aside0.mk HL2.out.drew; have HD3 := Aside0.mk HD2.out.drew; have FR3 := Aside0.mk (FR2.out.trans (fr_drew [1] v1_ c1))
      clear HL2 HD2 FR2
      have c0 := HL3.out.c0
      have HFF := Aside0.mk hff
      clear hff
      refine start_ (n := 10) (S := fun w' => w'.cell? ⟨gl, 0, none⟩ = some (.pointer (some ⟨g, 0, none⟩))) (ds := [8]) #[false, false, false, false, false, false, false, false, false, false] (by kernel_rfl) rfl rfl c0 (fun hHeld => ?_)
      refine rgp 0 49 ?_
      refine rgp 1 50 ?_
      refine rgp 2 51 ?_
      refine rgp 4 53 ?_
      refine rgp 5 54 ?_
      refine rgp 7 56 ?_
      refine rgt 3 52 hHeld ?_
      refine one_ (i := 6) (N := some 55) #[true, true, true, true, true, true, true, true, false, false] rfl rfl (by kernel_rfl) (by decide) (fun K hK => ?_)
      generalize v1_.drew = X1_ at *
      refine goes_ Try.func49 (by kernel_rfl) rfl #[.pointer (some ⟨gl, 0, none⟩), .int .i64 i] (by rfl) rfl rfl (by (try simp only [List.map_toArray, List.map_cons, List.map_nil]); first | done | rfl) ?_
      refine (place_calls HL3.out HF.out i HI.out.1).mono ?_
      rintro e v1_y ⟨rfl, hb1⟩
      refine ⟨_, rfl, ?_⟩
      have HL4 := Aside0.mk (HL3.out.below hb1); have HD4 := Aside0.mk (HD3.out.below hb1); have FR4 := Aside0.mk (FR3.out.trans (Fr.of_below (M := [1]) hb1))
      clear HL3 HD3 FR3 hb1
      refine hK _ _ HL4.out.c0 (fun hHeld => ?_)
      clear hK K
      refine norm_ (a' := ?_) ?_ ?_
      rotate_left
      · show Act.put _ (some 55) _ = _
        simp only [Act.put, List.setIfInBounds_toArray, List.set_cons_zero, List.set_cons_succ, i64_w, i32_w]
        rfl
      refine last_ (i := 8) (N := some 57) #[true, true, true, true, true, true, true, true, true, false] rfl rfl (by kernel_rfl) (by decide) (fun K hK => ?_)
      refine goes_ Try.func48 (by kernel_rfl) rfl #[.pointer (some ⟨g, 0, none⟩), .int .i64 (placeW W i), .string s] (by rfl) rfl rfl (by (try simp only [List.map_toArray, List.map_cons, List.map_nil]); first | done | rfl) ?_
      refine (dwrite_o HD4.out HO.out (placeW W i) s).mono ?_
      rintro e v9_ ⟨rfl, c2, hf, hd⟩
      refine ⟨_, rfl, ?_⟩
      have HL5 := Aside0.mk (HL4.out.keep hf (by decide)); have HD5 := Aside0.mk hd; have FR5 := Aside0.mk (FR4.out.trans hf)
      clear HL4 HD4 FR4 hf hd
      refine hK _ _ ?_
      clear hK K
      refine norm_ (a' := ?_) ?_ ?_
      rotate_left
      · show Act.put _ (some 57) _ = _
        simp only [Act.put, List.setIfInBounds_toArray, List.set_cons_zero, List.set_cons_succ, i64_w, i32_w]
        rfl
      refine rgp 9 5 ?_
      refine done_ (by kernel_rfl) ?_
      clear hHeld c0
      (try simp only [Exit.inBlock, Exit.then])
      have hok := ok_write (i := placeW W i) (s := s) HO.out (by have := HNN.out; have := JK.out; have := HK0.out; have := HGP.out; omega)
      have HO5 := Aside0.mk hok; clear hok HO
      generalize hwe : writeE dk (placeW W i) s = we at *
      generalize writeD dk (placeW W i) s = wd at *
      clear hwe
      by_cases he : we = 0
      · have e0 : (we != 0) = false := by simpa using he
        have e1 : (we == 0) = true := by simpa using he
        have HFF2 := Aside0.mk (show flushL W k (i + 1) wd = (Re, Rn, Rd) by have := HFF.out; rw [if_neg (fun h => h he)] at this; exact this)
        have hwk : wrap64 (i + 1) = i + 1 := by have := HLE.out; have := HOP.out; have := HI.out; unfold wrap64; omega
        clear he
        go_wp2
        go_roundw
        case rel => exact ⟨j + 1, k, wd, c2, by first | (rw [HIJ.out]; congr 1; omega) | (rw [hwk, HIJ.out]; congr 1; omega), ⟨by have := JK.out; omega⟩, HL5, HD5, FR5, ⟨HO5.out⟩, ⟨by rw [show W.first + ((j + 1 : Nat) : Int) = i + 1 by rw [HIJ.out]; omega]; exact HFF2.out⟩⟩
        case measure =>
          have := HLE.out; have := HI.out
          (try rw [hwk])
          simp only [intOf]; omega
      · have e0 : (we != 0) = true := by simpa using he
        have e1 : (we == 0) = false := by simpa using he
        have HQ := Aside0.mk (show (we, i, wd) = (Re, Rn, Rd) by have := HFF.out; rw [if_pos he] at this; exact this)
        have HWE := Aside0.mk he
        clear he
        go_wp2
        go_ret
        have hq := HQ.out
        have hfw : flushW W d = (we, W, wd) := by
          unfold flushW
          rw [HR.out, ← hq]
          rw [if_pos HWE.out]
        rw [hfw]
        exact ⟨rfl, c2, FR5.out.mono (by decide), HL5.out, HD5.out, HO5.out.mono (by have := JK.out; have := HK0.out; have := HGP.out; omega)⟩
    · have HQ := Aside0.mk (show (0, i, dk) = (Re, Rn, Rd) by
        have := HRL.out
        cases k with
        | zero => exact this
        | succ k => unfold flushL at this; rw [if_neg (by rw [← HBI.out]; exact hgo)] at this; exact this)
      have HLO := Aside0.mk HL.out
      have hcase : (i ≤ W.op ∧ b.toList.isEmpty = true) ∨ ¬ i ≤ W.op := by
        by_cases h : i ≤ W.op
        · refine .inl ⟨h, ?_⟩
          rw [empty_iff, decide_eq_true_iff]
          exact Classical.byContradiction fun h2 => hgo ⟨h, h2⟩
        · exact .inr h
      clear hgo
      have c4 := HL.out.c4; have c0 := HL.out.c0
      by_cases hfi : i = W.first
      · have e0 : (i == W.first) = true := beq_iff_eq.2 hfi
        have HFW := Aside0.mk (show flushW W d = (0, W, dk) by
          unfold flushW
          rw [HR.out, ← HQ.out]
          rw [if_neg (fun h => h rfl), if_pos hfi])
        clear hfi
        rcases hcase with ⟨t1, t2⟩ | t1
        all_goals
          go_wp2
          go_ret
          rw [HFW.out]
          exact ⟨rfl, c1, FR.out.mono (by decide), HL.out, HD.out, HO.out.mono (by have := JK.out; have := HK0.out; have := HGP.out; omega)⟩
      · have e0 : (i == W.first) = false := beq_eq_false_iff_ne.2 hfi
        have HFW := Aside0.mk (show flushW W d = if syncE dk ≠ 0 then (syncE dk, W, syncD dk) else (0, { W with first := i, op := i }, syncD dk) by
          unfold flushW
          rw [HR.out, ← HQ.out]
          rw [if_neg (fun h => h rfl), if_neg hfi])
        clear hfi
        have HOS := Aside0.mk (ok_sync HO.out)
        generalize hse : syncE dk = se at *
        generalize hsd : syncD dk = sd at *
        by_cases he : se = 0
        · have e1 : (se != 0) = false := by simpa using he
          have HFX := Aside0.mk (show flushW W d = (0, { W with first := i, op := i }, sd) by rw [HFW.out, if_neg (fun h => h he)])
          clear he
          rcases hcase with ⟨t1, t2⟩ | t1
          all_goals
            have hsy := dsync_o HD.out HO.out
            rw [hse, hsd] at hsy
            have HSY := Aside0.mk hsy; clear hsy
            go_upto_region 14 with (go_at_call 50; (with_reducible refine HSY.out.mono ?_); rintro e w1 ⟨rfl, c2, hf, hd⟩; have HL5 := Aside0.mk (HL.out.keep hf (by decide)); have HD5 := Aside0.mk hd; have FR5 := Aside0.mk (FR.out.trans hf); clear hf hd)
            clear c0 c4 c5 c7 hl
            have f4 := HL5.out.fz 4; have f5 := HL5.out.fz 5; have c4 := HL5.out.c4; have c5 := HL5.out.c5
            have s1 := HL5.out.set 4 (.int .i64 i) (W' := { W with first := i }) rfl rfl
            have c5b := s1.1.c5; have f5b := s1.1.fz 5
            have s2 := s1.1.set 5 (.int .i64 i) (W' := { W with first := i, op := i }) rfl rfl
            have HL6 := Aside0.mk s2.1; have HD6 := Aside0.mk (dk_keep HD5.out (s1.2.trans s2.2) (by decide)); have FR6 := Aside0.mk ((FR5.out.mono (M2 := [1, 3]) (by decide)).trans ((s1.2.trans s2.2).mono (by decide)))
            clear s1 s2
            go_wp2
            go_ret
            rw [HFX.out]
            exact ⟨rfl, c2, FR6.out, HL6.out, HD6.out, HOS.out.mono (by have := JK.out; have := HK0.out; have := HGP.out; omega)⟩
        · have e1 : (se != 0) = true := by simpa using he
          have HFX := Aside0.mk (show flushW W d = (se, W, sd) by rw [HFW.out, if_pos he])
          clear he
          rcases hcase with ⟨t1, t2⟩ | t1
          all_goals
            have hsy := dsync_o HD.out HO.out
            rw [hse, hsd] at hsy
            have HSY := Aside0.mk hsy; clear hsy
            go_upto_region 14 with (go_at_call 50; (with_reducible refine HSY.out.mono ?_); rintro e w1 ⟨rfl, c2, hf, hd⟩; have HL5 := Aside0.mk (HL.out.keep hf (by decide)); have HD5 := Aside0.mk hd; have FR5 := Aside0.mk (FR.out.trans hf); clear hf hd)
            clear c0 c4 c5 c7 hl
            go_wp2
            go_ret
            rw [HFX.out]
            exact ⟨rfl, c2, FR5.out.mono (by decide), HL5.out, HD5.out, HOS.out.mono (by have := JK.out; have := HK0.out; have := HGP.out; omega)⟩
end
end Go.Proofs.Ytbnglmeljbiglaa.Wl
set_option maxRecDepth 8192
namespace Go.Proofs.Ytbnglmeljbiglaa.Wl
open Go.Proofs.Ytbnglmeljbiglaa.X4 Go.Proofs.Ytbnglmeljbiglaa.Pt Go.Proofs.Ytbnglmeljbiglaa.Ptb Go Go.RowKit Go.ChangeMaps Go.Proofs.Ytbnglmeljbiglaa.Arr Go.Proofs.Ytbnglmeljbiglaa.Mp Go.Proofs.Ytbnglmeljbiglaa.Ow Go.Proofs.Ytbnglmeljbiglaa.Dk Go.Proofs.Ytbnglmeljbiglaa.Fr Go.Proofs.YtbnglmeljbiglaaW.PrintWords Go.Proofs.YtbnglmeljbiglaaW.PrintLast Go.Proofs.YtbnglmeljbiglaaW.PrintMore
set_option linter.unusedVariables false
set_option linter.unusedSimpArgs false
abbrev En_ := S44
def shiftE (i : Int) (x : En_) : En_ := ⟨x.f0 + i * 128, x.f1⟩
/-- The records of a sector, with their places. -/
def entL (i : Int) (b : ByteArray) : List En_ := (allS b).map (shiftE i)
theorem allL_at {s : ByteArray} : ∀ (n : Nat) (p : Int) (l : List En_), 0 ≤ p → allL s n p = some l → ∀ x ∈ l, 0 ≤ x.f0 ∧ x.f0 < s.size := by
  intro n
  induction n with
  | zero => intro p l _ h; cases h
  | succ n ih =>
    intro p l hp h
    unfold allL at h
    split at h
    · rename_i hlt
      split at h
      · rename_i e
        obtain ⟨t, ht, rfl⟩ := Option.map_eq_some_iff.1 h
        intro x hx
        rcases List.mem_cons.1 hx with rfl | hx
        · exact ⟨hp, hlt⟩
        · obtain ⟨bs, q, p0, -, -, -, -, hn2, hs2, hl⟩ := read_some e
          exact ih _ _ (by omega) ht x hx
      · cases h
    · injection h with h; subst h; intro x hx; cases hx
theorem allS_at {s : ByteArray} : ∀ x ∈ allS s, 0 ≤ x.f0 ∧ x.f0 < s.size := by
  intro x hx
  unfold allS at hx
  cases h : allF s with
  | none => rw [h] at hx; cases hx
  | some l => rw [h] at hx; exact allL_at _ 0 _ (by omega) h x hx
/-- The first j are shifted. -/
def partE (i : Int) (L : List En_) (j : Nat) : List En_ := (L.take j).map (shiftE i) ++ L.drop j
theorem partE_0 (i : Int) (L : List En_) : partE i L 0 = L := by unfold partE; simp
theorem partE_all (i : Int) (L : List En_) : partE i L L.length = L.map (shiftE i) := by unfold partE; simp
theorem partE_len (i : Int) (L : List En_) {j : Nat} (h : j ≤ L.length) : (partE i L j).length = L.length := by unfold partE; simp; omega
theorem partE_get (i : Int) (L : List En_) {j : Nat} (h : j < L.length) (z : En_) : (partE i L j).getD j z = L.getD j z := by
  unfold partE
  rw [List.getD_eq_getElem?_getD, List.getD_eq_getElem?_getD, List.getElem?_append_right (by simp; omega)]
  simp [show min j L.length = j by omega]
theorem partE_set (i : Int) (L : List En_) {j : Nat} (h : j < L.length) (z : En_) : (partE i L j).set j (shiftE i (L.getD j z)) = partE i L (j + 1) := by
  unfold partE
  rw [List.set_append_right _ _ (by simp; omega), List.getD_eq_getElem?_getD, List.getElem?_eq_getElem h]
  rw [show j - ((L.take j).map (shiftE i)).length = 0 by simp; omega, List.drop_eq_getElem_cons h, List.set_cons_zero, List.map_take, List.map_take, List.take_add_one (i := j)]
  simp [h]
theorem cells_one (w : World) (g o : Nat) (u : Value) : w.setCells g o [u] = w.setCell ⟨g, o, none⟩ u := rfl
section
variable {w : World} {c : Nat → Nat} {gl m g N : Nat} {W : WS}
set_option maxHeartbeats 8000000 in
theorem entries_calls (h : LO w c gl m g W) (i : Int) (hi : -1000000000000 ≤ i ∧ i ≤ 1000000000000) (hbd : (bdy W i).size ≤ 1000) :
    Calls Try.prog 55 #[.pointer (some ⟨gl, 0, none⟩), .int .i64 i] w fun e w' => ∃ v : Value, e = .returned v ∧ Kd.R X4.k44 44 w' w.heap.size (fun _ => True) v (entL i (bdy W i)) ∧ Below w.heap.size w w' := by
  have c7 := h.c7
  have hl := run_lookup0 h.map i
  have HBD := Aside0.mk hbd; have HI := Aside0.mk hi
  unfold entL bdy
  rw [show bdy W i = (W.f i).getD ⟨#[]⟩ from rfl] at HBD
  generalize (W.f i).getD ⟨#[]⟩ = b at *
  clear h hbd
  have HAT := Aside0.mk (allS_at (s := b))
  go_enter Try.func55, Try.ntmps55
  go_upto_region 2 with (go_at_call 73; (with_reducible refine (all_calls b (by have := HBD.out; omega) _).mono ?_); rintro e w1 ⟨v, rfl, hv, hb1⟩; have HV := Aside0.mk (Kd.S_R hv); have HB := Aside0.mk hb1; clear hv hb1)
  clear c7 hl
  generalize hL : allS b = L at *
  have HLL := Aside0.mk hL
  clear hL
  obtain ⟨A, cp, rfl, _⟩ := Kd.R_reads HV.out
  have hm : L.length ≤ 9223372036854775807 := (Kd.R_reads' HV.out).2.2.2.1
  go_upto_region 3 with (fail)
  go_loopw [20] (fun kv wr => ∃ j : Nat, kv = .int .i64 j ∧ Aside0 (j ≤ L.length) ∧ Aside0 (Kd.R X4.k44 44 wr w.heap.size (fun _ => True) (.slice A L.length cp) (partE i L j)) ∧ Aside0 (Below w.heap.size w wr)) (fun kv _ => L.length - (intOf kv).toNat)
  case atStart => exact ⟨0, rfl, ⟨Nat.zero_le _⟩, ⟨by rw [partE_0]; exact HV.out⟩, HB⟩
  case round =>
    clear HV HB
    obtain ⟨j, rfl, J, HV, HB⟩ := hrel
    by_cases hlt : j < L.length
    · have h1 : (j : Int) < (L.length : Int) := by omega
      have hwk : wrap64 ((j : Int) + 1) = ((j + 1 : Nat) : Int) := by unfold wrap64; omega
      have HLT := Aside0.mk hlt
      obtain ⟨gv, cap, hge, hb, hgl, cells, hcells⟩ := Kd.R_form HV.out (by rw [partE_len i L (by omega)]; omega)
      rw [partE_len i L (by omega)] at hge
      injection hge with hA _ hc
      subst hA; subst hc
      obtain ⟨cs, hcl, hM, hcc, hfz⟩ := Kd.R_elem HV.out X4.z44 (j : Int) (by omega) h1
      rw [Int.toNat_natCast, partE_get i L hlt] at hM
      rw [Int.toNat_natCast] at hcc hfz
      obtain ⟨x, hx⟩ : ∃ x, x = L.getD j X4.z44 := ⟨_, rfl⟩
      rw [← hx] at hM
      have hxm : x ∈ L := by rw [hx, List.getD_eq_getElem?_getD, List.getElem?_eq_getElem hlt]; exact List.getElem_mem hlt
      have hxa := HAT.out x hxm
      obtain ⟨v10, v11, rfl, m10, m11⟩ := X4.k44_openM hM
      have q0 : wr.cell? ⟨gv, j * 12, none⟩ = some (.int .i64 x.f0) := hcc 0 _ rfl
      have z0 : wr.frozen? ⟨gv, j * 12, none⟩ = false := hfz 0
      have hw1 : wrap64 (i * 128) = i * 128 := by have := HI.out; unfold wrap64; omega
      have hw2 : wrap64 (x.f0 + i * 128) = x.f0 + i * 128 := by have := HI.out; have := HBD.out; unfold wrap64; omega
      have hseg := Kd.R_seg HV.out (j : Int) (by omega) h1 (seg := [.int .i64 (x.f0 + i * 128)]) (j := 0) (x' := shiftE i x) hcl (by rw [Int.toNat_natCast]; exact hcc) (by rw [← hcl]; simp) (X4.k44_mkM wr w.heap.size _ (shiftE i x) m10 m11) (fun k hk => hk)
      rw [Int.toNat_natCast, hx, partE_set i L hlt, cells_one] at hseg
      rw [← hx] at hseg
      have HV2 := Aside0.mk hseg.1
      have HB2 := Aside0.mk (HB.out.setCell (p := ⟨gv, j * 12, none⟩) hb (.int .i64 (x.f0 + i * 128)))
      clear hseg hM hcc hfz m10 m11 hxa hxm hx hcells hcl HV HB
      go_wp2
      clear q0 z0
      (try rw [show j * 12 + 0 = j * 12 from rfl])
      go_roundw
      case rel => exact ⟨j + 1, by first | rfl | (rw [hwk]) | go_num, ⟨by have := HLT.out; omega⟩, HV2, HB2⟩
      case measure =>
        have := HLT.out
        (try rw [hwk])
        simp only [intOf]; omega
    · obtain rfl : j = L.length := by have := J.out; omega
      go_wp2
      go_ret
      exact ⟨_, rfl, by rw [HLL.out]; rw [partE_all] at HV; exact HV.out, HB.out⟩
end
end Go.Proofs.Ytbnglmeljbiglaa.Wl
set_option maxRecDepth 8192
namespace Go.Proofs.Ytbnglmeljbiglaa.Wl
open Go.Proofs.Ytbnglmeljbiglaa.Rgn
open Go.Proofs.Ytbnglmeljbiglaa.X4 Go.Proofs.Ytbnglmeljbiglaa.Pt Go.Proofs.Ytbnglmeljbiglaa.Ptb Go Go.RowKit Go.ChangeMaps Go.Proofs.Ytbnglmeljbiglaa.Arr Go.Proofs.Ytbnglmeljbiglaa.Mp Go.Proofs.Ytbnglmeljbiglaa.Ow Go.Proofs.Ytbnglmeljbiglaa.Dk Go.Proofs.Ytbnglmeljbiglaa.Fr Go.Proofs.YtbnglmeljbiglaaW.PrintWords Go.Proofs.YtbnglmeljbiglaaW.PrintLast Go.Proofs.YtbnglmeljbiglaaW.PrintMore
set_option linter.unusedVariables false
set_option linter.unusedSimpArgs false
/-- The records of the first k sectors, from a place on. -/
def scanK (W : WS) (from_ : Int) (k : Nat) : List En_ := (List.range k).flatMap fun (q : Nat) => (entL (W.low + (q : Int)) (bdy W (W.low + (q : Int)))).filter fun x => decide (from_ ≤ x.f0)
def scanF (W : WS) (from_ : Int) : List En_ := scanK W from_ (W.op + 1 - W.low).toNat
theorem scanK_succ (W : WS) (from_ : Int) (k : Nat) : scanK W from_ (k + 1) = scanK W from_ k ++ (entL (W.low + (k : Int)) (bdy W (W.low + (k : Int)))).filter fun x => decide (from_ ≤ x.f0) := by
  unfold scanK
  rw [List.range_succ, List.flatMap_append]
  simp
theorem all_le (s : ByteArray) : (allS s).length ≤ s.size := by
  have gen : ∀ (n : Nat) (p : Int) (l : List En_), 0 ≤ p → p ≤ s.size → allL s n p = some l → (l.length : Int) ≤ s.size - p := by
    intro n
    induction n with
    | zero => intro p l _ _ h; cases h
    | succ n ih =>
      intro p l hp hp2 h
      unfold allL at h
      split at h
      · rename_i hlt
        split at h
        · rename_i e
          obtain ⟨t, ht, rfl⟩ := Option.map_eq_some_iff.1 h
          obtain ⟨bs, q, p0, -, -, -, -, hn2, hs2, hl⟩ := read_some e
          have := ih _ _ (by omega) (by omega) ht
          simp only [List.length_cons]
          omega
        · cases h
      · injection h with h; subst h; simp; omega
  unfold allS
  cases h : allF s with
  | none => exact Nat.zero_le _
  | some l =>
    have := gen _ 0 l (by omega) (by omega) h
    show l.length ≤ s.size
    omega
theorem scanK_le (W : WS) (hbd : ∀ i, (bdy W i).size ≤ 112) (from_ : Int) (k : Nat) : (scanK W from_ k).length ≤ 112 * k := by
  induction k with
  | zero => exact Nat.le_refl _
  | succ k ih =>
    rw [scanK_succ, List.length_append]
    have h1 : ((entL (W.low + (k : Int)) (bdy W (W.low + (k : Int)))).filter fun x => decide (from_ ≤ x.f0)).length ≤ 112 := by
      refine Nat.le_trans (List.length_filter_le _ _) ?_
      unfold entL
      rw [List.length_map]
      exact Nat.le_trans (all_le _) (hbd _)
    omega
section
variable {w : World} {c : Nat → Nat} {gl m g N : Nat} {W : WS}
set_option maxHeartbeats 16000000 in
theorem scan_calls (h : LO w c gl m g W) (F : Fit W) (hbd : ∀ i, (bdy W i).size ≤ 112) (hgap : W.low ≤ W.op + 1 ∧ W.op - W.low ≤ 1000) (from_ : Int) :
    Calls Try.prog 20 #[.pointer (some ⟨gl, 0, none⟩), .int .i64 from_] w fun e w' => ∃ v : Value, e = .returned v ∧ Kd.N X4.k44 44 w' w.heap.size (fun k => w.heap.size ≤ k) v (scanF W from_) ∧ Below w.heap.size w w' := by
  have HL := Aside0.mk h; have HF := Aside0.mk F; have HBD := Aside0.mk hbd; have HGP := Aside0.mk hgap
  have c3 := h.c3
  clear h F hbd hgap
  have HK0 := Aside0.mk (show (((W.op + 1 - W.low).toNat : Nat) : Int) = W.op + 1 - W.low by have := HGP.out; omega)
  have HB := Aside0.mk (Below.refl w.heap.size w)
  go_enter Try.func20, Try.ntmps20
  go_upto_region 4 with (fail)
  clear c3
  go_loopw [4, 5] (fun lv iv wr => ∃ k : Nat, iv = .int .i64 (W.low + k) ∧ Aside0 (k ≤ (W.op + 1 - W.low).toNat) ∧ Aside0 (Kd.N X4.k44 44 wr w.heap.size (fun k => w.heap.size ≤ k) lv (scanK W from_ k)) ∧ Aside0 (LO wr c gl m g W) ∧ Aside0 (Below w.heap.size w wr)) (fun _ iv _ => (W.op + 1).toNat - (intOf iv).toNat)
  case atStart => exact ⟨0, by rw [show W.low + ((0 : Nat) : Int) = W.low by omega], ⟨Nat.zero_le _⟩, ⟨Kd.N_nil _ _ _ _ _⟩, HL, HB⟩
  case round =>
    clear HL HB
    obtain ⟨k, rfl, K, HV, HL, HB⟩ := hrel
    obtain ⟨lv, hlv⟩ : ∃ lv, lv = u4 := ⟨_, rfl⟩
    rw [← hlv] at HV
    rw [← hlv]
    clear hlv
    have c5 := HL.out.c5
    by_cases hle : W.low + (k : Int) ≤ W.op
    · have hwk : wrap64 (W.low + (k : Int) + 1) = W.low + (k : Int) + 1 := by have := HF.out.op; have := HF.out.low; unfold wrap64; omega
      have HLE := Aside0.mk hle
      go_upto_region 7 with (go_at_call 55; (with_reducible refine (entries_calls HL.out (W.low + (k : Int)) (by have := HF.out.op; have := HF.out.low; have := HLE.out; omega) (Nat.le_trans (HBD.out _) (by decide))).mono ?_); rintro e w1 ⟨rv, rfl, hv, hb1⟩; obtain ⟨A, cp, rfl⟩ := Kd.R_slice hv; have HE1 := Aside0.mk hv; have HB1 := Aside0.mk hb1; clear hv hb1)
      clear c5
      have HL1 := Aside0.mk (HL.out.below HB1.out); have HV1 := Aside0.mk (Kd.N_below HV.out HB1.out); have HBB := Aside0.mk (Arr.below_trans HB.out HB1.out)
      have hE := HE1.out
      generalize hL : entL (W.low + (k : Int)) (bdy W (W.low + (k : Int))) = L at *
      have HLL := Aside0.mk (show scanK W from_ (k + 1) = scanK W from_ k ++ L.filter (fun x => decide (from_ ≤ x.f0)) by rw [scanK_succ, hL])
      have HLN := Aside0.mk (show L.length ≤ 1000 by rw [← hL]; unfold entL; rw [List.length_map]; exact Nat.le_trans (all_le _) (Nat.le_trans (HBD.out _) (by decide)))
      have HXN := Aside0.mk (show (scanK W from_ k).length ≤ 1000000 by have := scanK_le W HBD.out from_ k; have := K.out; have := HK0.out; have := HGP.out; omega)
      clear hL
      have hF := Kd.F_mono (ok' := fun q => w.heap.size ≤ q ∧ some q ≠ lv.ownBlock) (Kd.R_F (Kd.R_bound hE)) (fun q hq => ⟨Nat.le_trans HB.out.size hq.2.1, fun he => by have := Kd.N_lt HV.out q he.symm; have := hq.2.1; omega⟩)
      have HFF := Aside0.mk hF
      clear hE hF HE1 HL HV HB HB1
      generalize scanK W from_ k = xs at *
      go_loopw [4, 26] (fun lv jv wq => ∃ j : Nat, jv = .int .i64 j ∧ Aside0 (j ≤ L.length) ∧ Aside0 (Kd.N X4.k44 44 wq w.heap.size (fun k => w.heap.size ≤ k) lv (xs ++ (L.take j).filter fun x => decide (from_ ≤ x.f0))) ∧ Aside0 (Kd.F X4.k44 wq (fun q => w.heap.size ≤ q ∧ some q ≠ lv.ownBlock) A L.length L) ∧ Aside0 (LO wq c gl m g W) ∧ Aside0 (Below w.heap.size w wq)) (fun _ jv _ => L.length - (intOf jv).toNat)
      case atStart => exact ⟨0, rfl, ⟨Nat.zero_le _⟩, ⟨by rw [List.take_zero, List.filter_nil, List.append_nil]; exact HV1.out⟩, HFF, HL1, HBB⟩
      case round =>
        clear HL1 HV1 HBB HFF
        obtain ⟨j, rfl, J, HV, HFF, HL, HB⟩ := hrel
        obtain ⟨lw, hlw⟩ : ∃ lw, lw = u4 := ⟨_, rfl⟩
        rw [← hlw] at HV HFF
        rw [← hlw]
        clear hlw
        by_cases hlt : j < L.length
        · have h1 : (j : Int) < (L.length : Int) := by omega
          have hwj : wrap64 ((j : Int) + 1) = ((j + 1 : Nat) : Int) := by have := HLN.out; unfold wrap64; omega
          have HLT := Aside0.mk hlt
          obtain ⟨ad, cs, rfl, hcl, hFK, hcc, _⟩ := Kd.F_get HFF.out X4.z44 (j : Int) (by omega) h1
          rw [Int.toNat_natCast] at hFK hcc
          have hxd : L.getD j X4.z44 = L[j] := by rw [List.getD_eq_getElem?_getD, List.getElem?_eq_getElem hlt]; rfl
          rw [hxd] at hFK
          generalize hx : L[j] = x at *
          have HTK := Aside0.mk (show (L.take (j + 1)).filter (fun x => decide (from_ ≤ x.f0)) = (L.take j).filter (fun x => decide (from_ ≤ x.f0)) ++ (if from_ ≤ x.f0 then [x] else []) by
            rw [List.take_add_one, List.getElem?_eq_getElem hlt, hx, List.filter_append]
            congr 1
            by_cases h : from_ ≤ x.f0
            · simp [h]
            · simp [h])
          obtain ⟨A10, c10, A11, c11, rfl, l10, g10, l11, g11⟩ := X4.k44_open (Kd.FK_now hFK)
          have HFK := Aside0.mk hFK
          have q0 : wr.cell? (ad.add (j * 12)) = some (.int .i64 x.f0) := hcc 0 _ rfl
          have q1 : wr.cell? ⟨(ad.add (j * 12)).block, (ad.add (j * 12)).off + 1, none⟩ = some (.int .i64 x.f1.f0) := by rw [← add_field _ _ 1 (by omega)]; exact hcc 1 _ rfl
          have q2 : wr.cell? ⟨(ad.add (j * 12)).block, (ad.add (j * 12)).off + 2, none⟩ = some (.int .i64 x.f1.f1) := by rw [← add_field _ _ 2 (by omega)]; exact hcc 2 _ rfl
          have q3 : wr.cell? ⟨(ad.add (j * 12)).block, (ad.add (j * 12)).off + 3, none⟩ = some (.int .i64 x.f1.f2) := by rw [← add_field _ _ 3 (by omega)]; exact hcc 3 _ rfl
          have q4 : wr.cell? ⟨(ad.add (j * 12)).block, (ad.add (j * 12)).off + 4, none⟩ = some (.int .i64 x.f1.f3) := by rw [← add_field _ _ 4 (by omega)]; exact hcc 4 _ rfl
          have q5 : wr.cell? ⟨(ad.add (j * 12)).block, (ad.add (j * 12)).off + 5, none⟩ = some (.int .i64 x.f1.f4) := by rw [← add_field _ _ 5 (by omega)]; exact hcc 5 _ rfl
          have q6 : wr.cell? ⟨(ad.add (j * 12)).block, (ad.add (j * 12)).off + 6, none⟩ = some (.int .i64 x.f1.f5) := by rw [← add_field _ _ 6 (by omega)]; exact hcc 6 _ rfl
          have q7 : wr.cell? ⟨(ad.add (j * 12)).block, (ad.add (j * 12)).off + 7, none⟩ = some (.int .i64 x.f1.f6) := by rw [← add_field _ _ 7 (by omega)]; exact hcc 7 _ rfl
          have q8 : wr.cell? ⟨(ad.add (j * 12)).block, (ad.add (j * 12)).off + 8, none⟩ = some (.string x.f1.f7) := by rw [← add_field _ _ 8 (by omega)]; exact hcc 8 _ rfl
          have q9 : wr.cell? ⟨(ad.add (j * 12)).block, (ad.add (j * 12)).off + 9, none⟩ = some (.string x.f1.f8) := by rw [← add_field _ _ 9 (by omega)]; exact hcc 9 _ rfl
          have q10 : wr.cell? ⟨(ad.add (j * 12)).block, (ad.add (j * 12)).off + 10, none⟩ = some (.slice A10 x.f1.f9.length c10) := by rw [← add_field _ _ 10 (by omega)]; exact hcc 10 _ rfl
          have q11 : wr.cell? ⟨(ad.add (j * 12)).block, (ad.add (j * 12)).off + 11, none⟩ = some (.slice A11 x.f1.f10.length c11) := by rw [← add_field _ _ 11 (by omega)]; exact hcc 11 _ rfl
          clear hcc hFK l10 g10 l11 g11 hx hcl hxd
          go_upto_region 9 with (fail)
          have hba := (Below.refl wr.heap.size wr).alloc (Nat.le_refl _) (.cells #[.int .i64 x.f0, .int .i64 x.f1.f0, .int .i64 x.f1.f1, .int .i64 x.f1.f2, .int .i64 x.f1.f3, .int .i64 x.f1.f4, .int .i64 x.f1.f5, .int .i64 x.f1.f6, .string x.f1.f7, .string x.f1.f8, .slice A10 x.f1.f9.length c10, .slice A11 x.f1.f10.length c11] 44)
          have HT := Aside0.mk (heap_alloc_new wr (.cells #[.int .i64 x.f0, .int .i64 x.f1.f0, .int .i64 x.f1.f1, .int .i64 x.f1.f2, .int .i64 x.f1.f3, .int .i64 x.f1.f4, .int .i64 x.f1.f5, .int .i64 x.f1.f6, .string x.f1.f7, .string x.f1.f8, .slice A10 x.f1.f9.length c10, .slice A11 x.f1.f10.length c11] 44))
          have HV1 := Aside0.mk (Kd.N_below HV.out hba); have HF1 := Aside0.mk (Kd.F_below HFF.out hba); have HFK1 := Aside0.mk (Kd.FK_below HFK.out hba); have HL1 := Aside0.mk (HL.out.below hba); have HB1 := Aside0.mk (HB.out.alloc HB.out.size (.cells #[.int .i64 x.f0, .int .i64 x.f1.f0, .int .i64 x.f1.f1, .int .i64 x.f1.f2, .int .i64 x.f1.f3, .int .i64 x.f1.f4, .int .i64 x.f1.f5, .int .i64 x.f1.f6, .string x.f1.f7, .string x.f1.f8, .slice A10 x.f1.f9.length c10, .slice A11 x.f1.f10.length c11] 44))
          clear hba HV HFF HFK HL HB q0 q1 q2 q3 q4 q5 q6 q7 q8 q9 q10 q11
          generalize wr.alloc (.cells #[.int .i64 x.f0, .int .i64 x.f1.f0, .int .i64 x.f1.f1, .int .i64 x.f1.f2, .int .i64 x.f1.f3, .int .i64 x.f1.f4, .int .i64 x.f1.f5, .int .i64 x.f1.f6, .string x.f1.f7, .string x.f1.f8, .slice A10 x.f1.f9.length c10, .slice A11 x.f1.f10.length c11] 44) = w4 at *
          generalize wr.heap.size = bx at *
          obtain ⟨x0, x1, x2, x3, x4, x5, x6, x7, x8, x9, x10, x11⟩ := cells12 w4 bx HT.out
          by_cases hge : from_ ≤ x.f0
          · have HTK2 := Aside0.mk (show xs ++ (L.take (j + 1)).filter (fun x => decide (from_ ≤ x.f0)) = xs ++ (L.take j).filter (fun x => decide (from_ ≤ x.f0)) ++ [x] by rw [HTK.out, if_pos hge, List.append_assoc])
            have HLN2 := Aside0.mk (show ((xs ++ (L.take j).filter fun x => decide (from_ ≤ x.f0)).length + 1) * 144 ≤ 140737488355328 by
              have h1 := HLN.out; have h2 := HXN.out
              have h3 : ((L.take j).filter fun x => decide (from_ ≤ x.f0)).length ≤ L.length := Nat.le_trans (List.length_filter_le _ _) (by rw [List.length_take]; omega)
              rw [List.length_append]
              omega)
            go_wp2_with ((with_reducible refine gate_builtin (b := .append) (xs := #[.tmp 34, .tmp 36]) rfl ?_); at_builtin; refine Kd.N_append X4.k44 (w0 := w) w.heap.size rfl (.tmp 34) (.tmp 36) 33 44 (.agg #[(.int .i64 0), (.int .i64 0), (.int .i64 0), (.int .i64 0), (.int .i64 0), (.int .i64 0), (.int .i64 0), (.int .i64 0), (.string ⟨#[]⟩), (.string ⟨#[]⟩), (.slice none 0 0), (.slice none 0 0)]) 144 rfl Try.underlying33 X4b.info44 rfl (by decide) (by omega) lw (xs ++ (L.take j).filter fun x => decide (from_ ≤ x.f0)) x [.int .i64 x.f0, .int .i64 x.f1.f0, .int .i64 x.f1.f1, .int .i64 x.f1.f2, .int .i64 x.f1.f3, .int .i64 x.f1.f4, .int .i64 x.f1.f5, .int .i64 x.f1.f6, .string x.f1.f7, .string x.f1.f8, .slice A10 x.f1.f9.length c10, .slice A11 x.f1.f10.length c11] (fun k => w.heap.size ≤ k) (fun q => w.heap.size ≤ q ∧ some q ≠ lw.ownBlock) rfl rfl HFK1.out (fun _ hk => hk) (fun q hq => Nat.le_trans HB1.out.size hq) HV1.out HB1.out HB1.out.size HLN2.out ?_; intro v1 w5 hv hb5 hg hat; have HV2 := Aside0.mk hv; have HB2 := Aside0.mk hb5; have HF2 := Aside0.mk (Kd.F_mono (ok' := fun q => w.heap.size ≤ q ∧ some q ≠ v1.ownBlock) (Kd.F_after HF1.out hg hat) (fun _ h => h)); have HL2 := Aside0.mk (show LO w5 c gl m g W from HL1.out.keepOwn hg (Kd.N_typed HV1.out)); clear hv hb5 hg hat HV1 HB1 HF1 HL1)
            go_roundw
            case rel => exact ⟨j + 1, by first | rfl | (rw [hwj]) | go_num, ⟨by have := HLT.out; omega⟩, ⟨by rw [HTK2.out]; exact HV2.out⟩, HF2, HL2, HB2⟩
            case measure =>
              have := HLT.out
              (try rw [hwj])
              simp only [intOf]; omega
          · have HTK2 := Aside0.mk (show xs ++ (L.take (j + 1)).filter (fun x => decide (from_ ≤ x.f0)) = xs ++ (L.take j).filter (fun x => decide (from_ ≤ x.f0)) by rw [HTK.out, if_neg hge, List.append_nil])
            go_wp2
            go_roundw
            case rel => exact ⟨j + 1, by first | rfl | (rw [hwj]) | go_num, ⟨by have := HLT.out; omega⟩, ⟨by rw [HTK2.out]; exact HV1.out⟩, HF1, HL1, HB1⟩
            case measure =>
              have := HLT.out
              (try rw [hwj])
              simp only [intOf]; omega
        · obtain rfl : j = L.length := by have := J.out; omega
          have HTK2 := Aside0.mk (show xs ++ (L.take L.length).filter (fun x => decide (from_ ≤ x.f0)) = scanK W from_ (k + 1) by rw [List.take_length, HLL.out])
          go_wp2
          go_roundw
          case rel => exact ⟨k + 1, by first | (rw [hwk]; congr 1; omega) | (congr 1; omega), ⟨by have := HLE.out; have := HK0.out; omega⟩, ⟨by rw [← HTK2.out]; exact HV.out⟩, HL, HB⟩
          case measure =>
            have := HLE.out
            have hw := hwk
            have := HF.out.low
            simp only [intOf]
            first | omega | (rw [hw]; omega) | (simp only [hw]; omega)
    · have HKK := Aside0.mk (show k = (W.op + 1 - W.low).toNat by have := K.out; have := HK0.out; omega)
      go_wp2
      go_ret
      exact ⟨_, rfl, by unfold scanF; rw [← HKK.out]; exact HV.out, HB.out⟩
end
end Go.Proofs.Ytbnglmeljbiglaa.Wl
set_option maxRecDepth 8192
namespace Go.Proofs.Ytbnglmeljbiglaa.Wl
open Go.Proofs.Ytbnglmeljbiglaa.Rgn
open Go.Proofs.Ytbnglmeljbiglaa.X4 Go.Proofs.Ytbnglmeljbiglaa.Pt Go.Proofs.Ytbnglmeljbiglaa.Ptb Go Go.RowKit Go.ChangeMaps Go.Proofs.Ytbnglmeljbiglaa.Arr Go.Proofs.Ytbnglmeljbiglaa.Mp Go.Proofs.Ytbnglmeljbiglaa.Ow Go.Proofs.Ytbnglmeljbiglaa.Dk Go.Proofs.Ytbnglmeljbiglaa.Fr Go.Proofs.YtbnglmeljbiglaaW.PrintWords Go.Proofs.YtbnglmeljbiglaaW.PrintLast Go.Proofs.YtbnglmeljbiglaaW.PrintMore
set_option linter.unusedVariables false
set_option linter.unusedSimpArgs false
/-- The record at a place, if there is one. -/
def findW (W : WS) (p : Int) : Option En_ := if 0 ≤ p then (entL (sctr p) (bdy W (sctr p))).find? (fun x => x.f0 == p) else none
def errW (W : WS) (p : Int) : Int := match findW W p with | some _ => 0 | none => 7
section
variable {w : World} {c : Nat → Nat} {gl m g N : Nat} {W : WS}
end
end Go.Proofs.Ytbnglmeljbiglaa.Wl
set_option maxRecDepth 8192
namespace Go.Proofs.Ytbnglmeljbiglaa.Wl
open Go.Proofs.Ytbnglmeljbiglaa.X4 Go.Proofs.Ytbnglmeljbiglaa.Pt Go.Proofs.Ytbnglmeljbiglaa.Ptb Go.Proofs.Ytbnglmeljbiglaa.Rp Go Go.RowKit Go.ChangeMaps Go.Proofs.Ytbnglmeljbiglaa.Arr Go.Proofs.Ytbnglmeljbiglaa.Mp Go.Proofs.Ytbnglmeljbiglaa.Ow Go.Proofs.Ytbnglmeljbiglaa.Dk Go.Proofs.Ytbnglmeljbiglaa.Fr Go.Proofs.YtbnglmeljbiglaaW.PrintWords
set_option linter.unusedVariables false
set_option linter.unusedSimpArgs false
abbrev Rc_ := S37
theorem B_app (a b : List UInt8) : B a ++ B b = B (a ++ b) := B_append a b
theorem B_empty {l : List UInt8} : B l = ⟨#[]⟩ ↔ l = [] := by
  constructor
  · intro h
    have := congrArg (fun b : ByteArray => b.data.toList) h
    simpa [B_list] using this
  · rintro rfl; rfl
theorem prB_one {r : Rc_} (h : mayB r = true) : 1 ≤ (prB r).length ∧ printF r = (B (prB r), 0) := by
  rcases print_may (r := r) with ⟨bs, hb, ho, hp, hm⟩ | ⟨hp, hm⟩
  · rw [prB_may hb h]; exact ⟨(rec_len hb).2.2, hp⟩
  · rw [hm] at h; cases h
theorem print_not {r : Rc_} (h : mayB r = false) : (printF r).2 = 1 := by
  rcases print_may (r := r) with ⟨bs, hb, ho, hp, hm⟩ | ⟨hp, hm⟩
  · rw [hm] at h; cases h
  · rw [hp]
theorem append_not (W : WS) {r : Rc_} (h : mayB r = false) : appendW W r = (0, 1, W) := by
  unfold appendW
  rw [if_pos (by rw [print_not h]; decide)]
theorem append_may (W : WS) {r : Rc_} (h : mayB r = true) : appendW W r = appW W (B (prB r)) := by
  unfold appendW
  rw [(prB_one h).2]
  exact if_neg (by simp)
theorem bytes_nil {l : List Rc_} (h : ∀ r ∈ l, mayB r = true) : bytesW l = [] ↔ l = [] := by
  constructor
  · intro e
    cases l with
    | nil => rfl
    | cons x t =>
      have h1 := (prB_one (h x (List.mem_cons_self ..))).1
      have h2 := congrArg List.length e
      rw [bytesW, List.length_append] at h2
      have : ([] : List UInt8).length = 0 := rfl
      omega
  · rintro rfl; rfl
/-- A log's sectors hold these records. -/
structure Rows (W : WS) (R : Int → List Rc_) : Prop where
  body : ∀ i, bdy W i = B (bytesW (R i))
  may : ∀ i, ∀ r ∈ R i, mayB r = true
  lo : ∀ i, i < W.low → R i = []
  hi : ∀ i, W.op < i → R i = []
  full : ∀ i, W.low ≤ i → i < W.op → R i ≠ []
  len : ∀ i, (bytesW (R i)).length ≤ 112
  ord : 0 ≤ W.low ∧ W.low ≤ W.first ∧ W.first ≤ W.op
theorem rows_new (base n : Int) : Rows (newW base n) (fun _ => []) :=
  ⟨fun _ => rfl, fun _ _ h => (by cases h), fun _ _ => rfl, fun _ _ => rfl, fun i h1 h2 => by
    have h1 : (1 : Int) ≤ i := h1
    have h2 : i < (1 : Int) := h2
    omega, fun _ => Nat.zero_le _, by show (0 : Int) ≤ 1 ∧ (1 : Int) ≤ 1 ∧ (1 : Int) ≤ 1; omega⟩
variable {W : WS} {R : Int → List Rc_}
theorem Rows.empty (h : Rows W R) (i : Int) : bdy W i = ⟨#[]⟩ ↔ R i = [] := by
  rw [h.body, B_empty, bytes_nil (h.may i)]
theorem Rows.size (h : Rows W R) (i : Int) : (bdy W i).size = (bytesW (R i)).length := by rw [h.body, B_size]
theorem Rows.le (h : Rows W R) (i : Int) : (bdy W i).size ≤ 112 := by rw [h.size]; exact h.len i
/-- The next sector to be begun. -/
def nxW (W : WS) : Int := if bdy W W.op = ⟨#[]⟩ then W.op else W.op + 1
theorem room_nx (W : WS) : roomW W = W.low + W.n - nxW W := by
  unfold roomW nxW
  split <;> omega
/-- The records of a sector, with their places. -/
def secE (R : Int → List Rc_) (i : Int) : List En_ := (wantW 0 (R i)).map (shiftE i)
theorem allS_rows (l : List Rc_) : allS (B (bytesW l)) = wantW 0 l := by
  unfold allS
  rw [all_rows]
  rfl
theorem Rows.ent (h : Rows W R) (i : Int) : entL i (bdy W i) = secE R i := by
  unfold entL secE
  rw [h.body, allS_rows]
def allK (R : Int → List Rc_) (low : Int) (k : Nat) : List En_ := (List.range k).flatMap fun (q : Nat) => secE R (low + (q : Int))
theorem allK_succ (R : Int → List Rc_) (low : Int) (k : Nat) : allK R low (k + 1) = allK R low k ++ secE R (low + (k : Int)) := by
  unfold allK
  rw [List.range_succ, List.flatMap_append]
  simp
/-- All records that a log holds. -/
def allR (W : WS) (R : Int → List Rc_) : List En_ := allK R W.low (W.op + 1 - W.low).toNat
theorem Rows.scanK (h : Rows W R) (from_ : Int) (k : Nat) : scanK W from_ k = (allK R W.low k).filter fun x => decide (from_ ≤ x.f0) := by
  induction k with
  | zero => rfl
  | succ k ih => rw [scanK_succ, allK_succ, List.filter_append, ih, h.ent]
theorem Rows.scan (h : Rows W R) (from_ : Int) : scanF W from_ = (allR W R).filter fun x => decide (from_ ≤ x.f0) := h.scanK from_ _
theorem secE_at (R : Int → List Rc_) (i : Int) : ∀ x ∈ secE R i, i * 128 ≤ x.f0 ∧ x.f0 < i * 128 + (bytesW (R i)).length := by
  intro x hx
  obtain ⟨y, hy, rfl⟩ := List.mem_map.1 hx
  have := allS_at (s := B (bytesW (R i))) y (by rw [allS_rows]; exact hy)
  rw [B_size] at this
  show i * 128 ≤ y.f0 + i * 128 ∧ y.f0 + i * 128 < _
  omega
theorem allK_at (h : Rows W R) (k : Nat) : ∀ x ∈ allK R W.low k, ∃ q : Nat, q < k ∧ (W.low + q) * 128 ≤ x.f0 ∧ x.f0 < (W.low + q) * 128 + 112 := by
  intro x hx
  obtain ⟨q, hq, hx⟩ := List.mem_flatMap.1 hx
  have h1 := secE_at R (W.low + q) x hx
  have h2 := h.len (W.low + q)
  exact ⟨q, List.mem_range.1 hq, h1.1, by omega⟩
theorem Rows.scan0 (h : Rows W R) : scanF W 0 = allR W R := by
  rw [h.scan]
  refine List.filter_eq_self.2 (fun x hx => ?_)
  obtain ⟨q, hq, h1, h2⟩ := allK_at h _ x hx
  have := h.ord
  exact decide_eq_true (by omega)
/-- One more record in a sector. -/
def putR (R : Int → List Rc_) (i : Int) (r : Rc_) : Int → List Rc_ := fun j => if j = i then R i ++ [r] else R j
theorem putR_at (R : Int → List Rc_) (i : Int) (r : Rc_) : putR R i r i = R i ++ [r] := if_pos rfl
theorem putR_off (R : Int → List Rc_) {i j : Int} (r : Rc_) (h : j ≠ i) : putR R i r j = R j := if_neg h
theorem secE_put (R : Int → List Rc_) (i : Int) {r : Rc_} (hm : mayB r = true) : secE (putR R i r) i = secE R i ++ [⟨i * 128 + (bytesW (R i)).length, r⟩] := by
  unfold secE
  rw [putR_at, want_append, List.map_append]
  refine congrArg (fun t : List En_ => List.map (shiftE i) (wantW 0 (R i)) ++ t) ?_
  rw [wantW, wantW, if_pos hm]
  show [shiftE i ⟨((0 + (bytesW (R i)).length : Nat) : Int), r⟩] = _
  unfold shiftE
  refine congrArg (fun z => [(⟨z, r⟩ : En_)]) ?_
  show ((0 + (bytesW (R i)).length : Nat) : Int) + i * 128 = _
  omega
theorem allK_put (R : Int → List Rc_) (low i : Int) (r : Rc_) (k : Nat) (h : low + k ≤ i) : allK (putR R i r) low k = allK R low k := by
  induction k with
  | zero => rfl
  | succ k ih =>
    rw [allK_succ, allK_succ, ih (by omega)]
    unfold secE
    rw [putR_off R r (by omega)]
/-- Where a record goes. -/
structure Goes (W : WS) (R : Int → List Rc_) (r : Rc_) (i : Int) : Prop where
  sec : i = W.op ∨ (i = W.op + 1 ∧ R W.op ≠ [])
  fits : (bytesW (R i)).length + (prB r).length ≤ 112
  room : R i = [] → i < W.low + W.n
/-- The log behind an Append. -/
def putW (W : WS) (R : Int → List Rc_) (r : Rc_) (i : Int) : WS := { W with op := i, f := fill W.f i (B (bytesW (R i ++ [r]))) }
theorem append_cases (h : Rows W R) {r : Rc_} (hm : mayB r = true) : (appendW W r = (0, 5, W) ∧ W.low + W.n ≤ nxW W) ∨ ∃ i, Goes W R r i ∧ appendW W r = (i * 128 + (bytesW (R i)).length, 0, putW W R r i) := by
  rw [append_may W hm]
  obtain ⟨p1, p2⟩ := prB_one hm
  have p3 := prB_le r
  have hb : ∀ i : Int, B (bytesW (R i)) ++ B (prB r) = B (bytesW (R i ++ [r])) := fun i => by
    rw [B_app, bytes_append]
    simp [bytesW]
  by_cases e : R W.op = []
  · have eb : bdy W W.op = ⟨#[]⟩ := (h.empty _).2 e
    have eg : goesW W (B (prB r)).size = (W.op, ⟨#[]⟩) := by
      unfold goesW
      rw [if_neg (fun x => x.1 eb), eb]
    unfold appW
    rw [eg]
    by_cases hr : W.low + W.n ≤ W.op
    · left
      refine ⟨if_pos ⟨rfl, hr⟩, ?_⟩
      unfold nxW
      rw [if_pos eb]; exact hr
    · right
      refine ⟨W.op, ⟨.inl rfl, by rw [e]; show 0 + _ ≤ 112; omega, fun _ => by omega⟩, ?_⟩
      rw [if_neg (fun x => hr x.2)]
      unfold putW
      rw [← hb, e]
      rfl
  · have eb : ¬ bdy W W.op = ⟨#[]⟩ := fun x => e ((h.empty _).1 x)
    have en : nxW W = W.op + 1 := if_neg eb
    by_cases hf : 112 < (bdy W W.op).size + (B (prB r)).size
    · have eg : goesW W (B (prB r)).size = (W.op + 1, ⟨#[]⟩) := by
        unfold goesW
        rw [if_pos ⟨eb, hf⟩]
      have e1 : R (W.op + 1) = [] := h.hi _ (by omega)
      unfold appW
      rw [eg]
      by_cases hr : W.low + W.n ≤ W.op + 1
      · left
        exact ⟨if_pos ⟨rfl, hr⟩, by omega⟩
      · right
        refine ⟨W.op + 1, ⟨.inr ⟨rfl, e⟩, by rw [e1]; show 0 + _ ≤ 112; omega, fun _ => by omega⟩, ?_⟩
        rw [if_neg (fun x => hr x.2)]
        unfold putW
        rw [← hb, e1]
        rfl
    · have eg : goesW W (B (prB r)).size = (W.op, bdy W W.op) := by
        unfold goesW
        rw [if_neg (fun x => hf x.2)]
      right
      unfold appW
      rw [eg]
      refine ⟨W.op, ⟨.inl rfl, by rw [h.size, B_size] at hf; omega, fun x => absurd x e⟩, ?_⟩
      rw [if_neg (fun x => eb x.1)]
      unfold putW
      rw [← hb, h.body, B_size]
theorem Goes.ge {r : Rc_} {i : Int} (g : Goes W R r i) : W.op ≤ i := by rcases g.sec with e | ⟨e, _⟩ <;> omega
theorem put_rows (h : Rows W R) {r : Rc_} (hm : mayB r = true) {i : Int} (g : Goes W R r i) : Rows (putW W R r i) (putR R i r) := by
  have hge := g.ge
  have ho := h.ord
  refine ⟨fun j => ?_, fun j x hx => ?_, fun j hj => ?_, fun j hj => ?_, fun j h1 h2 => ?_, fun j => ?_, ?_⟩
  · show (fill W.f i (B (bytesW (R i ++ [r]))) j).getD _ = _
    unfold fill putR
    by_cases e : j = i
    · rw [if_pos e, if_pos e]; rfl
    · rw [if_neg e, if_neg e]; exact h.body j
  · unfold putR at hx
    by_cases e : j = i
    · rw [if_pos e] at hx
      rcases List.mem_append.1 hx with hx | hx
      · exact h.may i x hx
      · rw [List.mem_singleton.1 hx]; exact hm
    · rw [if_neg e] at hx; exact h.may j x hx
  · have hj : j < W.low := hj
    rw [putR_off R r (by omega)]
    exact h.lo j hj
  · have hj : i < j := hj
    rw [putR_off R r (by omega)]
    exact h.hi j (by omega)
  · have h1 : W.low ≤ j := h1
    have h2 : j < i := h2
    rw [putR_off R r (by omega)]
    by_cases e : j < W.op
    · exact h.full j h1 e
    · rcases g.sec with e2 | ⟨e2, e3⟩
      · omega
      · rw [show j = W.op by omega]; exact e3
  · unfold putR
    by_cases e : j = i
    · rw [if_pos e, bytes_append, List.length_append, bytesW, bytesW, List.append_nil]
      exact g.fits
    · rw [if_neg e]; exact h.len j
  · show 0 ≤ W.low ∧ W.low ≤ W.first ∧ W.first ≤ i
    omega
theorem put_all (h : Rows W R) {r : Rc_} (hm : mayB r = true) {i : Int} (g : Goes W R r i) : allR (putW W R r i) (putR R i r) = allR W R ++ [⟨i * 128 + (bytesW (R i)).length, r⟩] := by
  have hge := g.ge
  have ho := h.ord
  have e1 : allR (putW W R r i) (putR R i r) = allK (putR R i r) W.low ((i - W.low).toNat + 1) := by
    show allK _ W.low (i + 1 - W.low).toNat = _
    rw [show (i + 1 - W.low).toNat = (i - W.low).toNat + 1 by omega]
  have e2 : allK R W.low ((i - W.low).toNat + 1) = allR W R := by
    rcases g.sec with e | ⟨e, e3⟩
    · unfold allR
      rw [show (W.op + 1 - W.low).toNat = (i - W.low).toNat + 1 by omega]
    · rw [allK_succ, show W.low + (((i - W.low).toNat : Nat) : Int) = i by omega]
      have : secE R i = [] := by unfold secE; rw [h.hi i (by omega)]; rfl
      rw [this, List.append_nil]
      unfold allR
      rw [show (W.op + 1 - W.low).toNat = (i - W.low).toNat by omega]
  rw [e1, ← e2, allK_succ, allK_succ, show W.low + (((i - W.low).toNat : Nat) : Int) = i by omega, secE_put R i hm, allK_put R W.low i r _ (by omega), List.append_assoc]
theorem put_nx (h : Rows W R) {r : Rc_} (hm : mayB r = true) {i : Int} (g : Goes W R r i) : nxW (putW W R r i) = i + 1 ∧ nxW W ≤ i + 1 ∧ i ≤ nxW W ∧ W.op ≤ i := by
  have h1 := put_rows h hm g
  have h2 : ¬ bdy (putW W R r i) i = ⟨#[]⟩ := fun e => by
    have := (h1.empty i).1 e
    rw [putR_at] at this
    simp at this
  refine ⟨if_neg h2, ?_, ?_, g.ge⟩
  · have := g.ge
    unfold nxW
    split <;> omega
  · rcases g.sec with e | ⟨e, e3⟩
    · unfold nxW; split <;> omega
    · have : ¬ bdy W W.op = ⟨#[]⟩ := fun x => e3 ((h.empty _).1 x)
      unfold nxW; rw [if_neg this]; omega
theorem sctr_at {i : Int} {k : Nat} (hi : 0 ≤ i) (hk : k < 128) : sctr (i * 128 + (k : Int)) = i := by
  unfold sctr
  rw [Int.tdiv_eq_ediv_of_nonneg (by omega)]
  omega
theorem put_find (h : Rows W R) {r : Rc_} (hm : mayB r = true) {i : Int} (g : Goes W R r i) : findW (putW W R r i) (i * 128 + (bytesW (R i)).length) = some ⟨i * 128 + (bytesW (R i)).length, r⟩ := by
  have hge := g.ge
  have ho := h.ord
  have hl := h.len i
  unfold findW
  rw [if_pos (by omega), sctr_at (by omega) (by omega), (put_rows h hm g).ent, secE_put R i hm, List.find?_append]
  have : (secE R i).find? (fun x => x.f0 == i * 128 + (bytesW (R i)).length) = none := by
    rw [List.find?_eq_none]
    intro x hx
    have := (secE_at R i x hx).2
    simp only [beq_iff_eq]
    omega
  rw [this]
  simp
end Go.Proofs.Ytbnglmeljbiglaa.Wl
set_option maxRecDepth 8192
namespace Go.Proofs.Ytbnglmeljbiglaa.Wl
open Go.Proofs.Ytbnglmeljbiglaa.X4 Go.Proofs.Ytbnglmeljbiglaa.Pt Go.Proofs.Ytbnglmeljbiglaa.Ptb Go.Proofs.Ytbnglmeljbiglaa.Rp Go.Proofs.Ytbnglmeljbiglaa.Cr Go Go.RowKit Go.ChangeMaps Go.Proofs.Ytbnglmeljbiglaa.Arr Go.Proofs.Ytbnglmeljbiglaa.Mp Go.Proofs.Ytbnglmeljbiglaa.Ow Go.Proofs.Ytbnglmeljbiglaa.Dk Go.Proofs.Ytbnglmeljbiglaa.Fr Go.Proofs.YtbnglmeljbiglaaW.PrintWords
set_option linter.unusedVariables false
set_option linter.unusedSimpArgs false
def secB (e i : Int) (b : ByteArray) : ByteArray := (X12.packI e i b).1
theorem secB_size {e i : Int} {b : ByteArray} (he : 0 ≤ e ∧ e < 4294967296) (hi : 0 ≤ i ∧ i < 4294967296) (hb : b.size ≤ 112) : (secB e i b).size = 128 := by
  unfold secB
  rw [← X12.bl_len, (X12.packI_bl e i b he hi hb).1, Slab.secL_len _ _ _ (by rw [X12.bl_len]; exact hb)]
theorem secB_un {e i : Int} {b : ByteArray} (he : 0 ≤ e ∧ e < 4294967296) (hi : 0 ≤ i ∧ i < 4294967296) (hb : b.size ≤ 112) : X12.unpackF (secB e i b) = (e, i, b, 0) := X12.unpack_pack e i b he hi hb
def valS (s : ByteArray) : Prop := (X12.unpackF s).2.2.2 = 0
abbrev epS (s : ByteArray) : Int := (X12.unpackF s).1
theorem not_val : ¬ valS (noughts 128) := by unfold valS; decide +kernel
theorem secB_val {e i : Int} {b : ByteArray} (he : 0 ≤ e ∧ e < 4294967296) (hi : 0 ≤ i ∧ i < 4294967296) (hb : b.size ≤ 112) : valS (secB e i b) ∧ epS (secB e i b) = e := by
  unfold valS epS
  rw [secB_un he hi hb]
  exact ⟨rfl, rfl⟩
/-- What a sector says as the log's i-th one. -/
def whole1 (s : ByteArray) (i : Int) : Option (Int × ByteArray) := if (X12.unpackF s).2.2.2 = 0 ∧ (X12.unpackF s).2.1 = i ∧ (X12.unpackF s).2.2.1 ≠ ⟨#[]⟩ ∧ allE (X12.unpackF s).2.2.1 = 0 then some ((X12.unpackF s).1, (X12.unpackF s).2.2.1) else none
theorem whole_quiet {S : List ByteArray} {d : DS} (h : Mid S [] d) {p : Int} (h0 : 0 ≤ p) (h1 : p < S.length) (i : Int) : wholeF d p i = whole1 (cut S p) i := by
  unfold wholeF whole1
  rw [quiet_readE h h0 h1, quiet_readS h h0 h1, if_neg (by decide)]
theorem whole1_val {s : ByteArray} {i : Int} {q : Int × ByteArray} (h : whole1 s i = some q) : valS s ∧ q.1 = epS s := by
  unfold whole1 at h
  split at h
  · rename_i c
    injection h with h
    subst h
    exact ⟨c.1, rfl⟩
  · cases h
theorem whole1_not {s : ByteArray} (i : Int) (h : ¬ valS s) : whole1 s i = none := by
  cases e : whole1 s i with
  | none => rfl
  | some q => exact absurd (whole1_val e).1 h
theorem whole1_sec {e i : Int} {l : List Rc_} (he : 0 ≤ e ∧ e < 4294967296) (hi : 0 ≤ i ∧ i < 4294967296) (hl : (bytesW l).length ≤ 112) (hne : l ≠ []) (hm : ∀ r ∈ l, mayB r = true) : whole1 (secB e i (B (bytesW l))) i = some (e, B (bytesW l)) := by
  unfold whole1
  rw [secB_un he hi (by rw [B_size]; exact hl)]
  refine if_pos ⟨rfl, rfl, fun x => hne ((bytes_nil hm).1 (B_empty.1 x)), ?_⟩
  unfold allE
  rw [all_rows]
  rfl
/-- It is refused behind an epoch. -/
def Ref (last : Int) (o : Option (Int × ByteArray)) : Prop := ∀ q, o = some q → q.1 < last
theorem ref_none (last : Int) : Ref last none := fun q h => by cases h
theorem latest_ge (d : DS) (base : Int) : ∀ (k j : Nat), j < k → valS (readS d (base + j)) → epS (readS d (base + j)) ≤ latestF d base k := by
  intro k
  induction k with
  | zero => intro j h; omega
  | succ k ih =>
    intro j h hv
    unfold latestF
    by_cases e : j = k
    · subst e
      rw [if_pos (show (X12.unpackF (readS d (base + (j : Int)))).2.2.2 = 0 from hv)]
      split
      · exact Int.le_refl _
      · rename_i h2; exact Int.not_lt.1 h2
    · have := ih j (by omega) hv
      split
      · split
        · rename_i h2; exact Int.le_of_lt (Int.lt_of_le_of_lt this h2)
        · exact this
      · exact this
theorem latest_le (d : DS) (base E : Int) (h0 : 0 ≤ E) : ∀ k : Nat, (∀ j : Nat, j < k → valS (readS d (base + j)) → epS (readS d (base + j)) ≤ E) → latestF d base k ≤ E := by
  intro k
  induction k with
  | zero => intro _; exact h0
  | succ k ih =>
    intro h
    have h1 := ih (fun j hj => h j (by omega))
    unfold latestF
    split
    · rename_i hv
      split
      · exact h k (by omega) hv
      · exact h1
    · exact h1
theorem latest_nn (d : DS) (base : Int) : ∀ k : Nat, 0 ≤ latestF d base k := by
  intro k
  induction k with
  | zero => exact Int.le_refl _
  | succ k ih =>
    unfold latestF
    split
    · split
      · rename_i h; omega
      · exact ih
    · exact ih
/-- The epoch ahead of a sector. -/
def lastE (e : Int → Int) (k : Int) : Int := if k = 1 then 0 else e (k - 1)
theorem scan_run {d : DS} {base n : Int} {T : List ByteArray} (hq : Mid T [] d) (hp : ∀ i : Int, 0 ≤ i → 0 ≤ base + i.tmod n ∧ base + i.tmod n < T.length) {R : Int → List Rc_} {e : Int → Int} {k : Int}
    (ok : ∀ j, 1 ≤ j → j < k → whole1 (cut T (base + j.tmod n)) j = some (e j, B (bytesW (R j)))) (he : ∀ j, 1 ≤ j → j < k → 0 ≤ e j) (mono : ∀ j, 1 ≤ j → j + 1 < k → e j ≤ e (j + 1)) (stop : k ≤ n → Ref (lastE e k) (whole1 (cut T (base + k.tmod n)) k)) (hk : k ≤ n + 1) :
    ∀ (fuel : Nat) (a : Int) (f : Int → Option ByteArray), 1 ≤ a → a ≤ k → a + fuel = n + 1 → scanW d base n fuel a (lastE e a) f = (k, fun j => if a ≤ j ∧ j < k then some (B (bytesW (R j))) else f j) := by
  intro fuel
  induction fuel with
  | zero =>
    intro a f h1 h2 h3
    unfold scanW
    refine Prod.ext (by show a = k; omega) ?_
    funext j
    show f j = if a ≤ j ∧ j < k then some (B (bytesW (R j))) else f j
    rw [if_neg (by omega)]
  | succ fuel ih =>
    intro a f h1 h2 h3
    have hpa := hp a (by omega)
    unfold scanW
    rw [whole_quiet hq hpa.1 hpa.2]
    by_cases e1 : a = k
    · subst e1
      have hs := stop (by omega)
      have hf : f = fun j => if a ≤ j ∧ j < a then some (B (bytesW (R j))) else f j := by funext j; rw [if_neg (by omega)]
      cases hw : whole1 (cut T (base + a.tmod n)) a with
      | none => exact Prod.ext rfl hf
      | some q => simp only []; rw [if_pos (hs q hw)]; exact Prod.ext rfl hf
    · have hl : lastE e a ≤ e a := by
        unfold lastE
        split
        · rename_i e2; rw [e2]; exact he 1 (by omega) (by omega)
        · have := mono (a - 1) (by omega) (by omega)
          rw [show a - 1 + 1 = a by omega] at this
          exact this
      rw [ok a h1 (by omega)]
      simp only []
      rw [if_neg (by omega)]
      have := ih (a + 1) (fun j => if j = a then some (B (bytesW (R a))) else f j) (by omega) (by omega) (by omega)
      rw [show lastE e (a + 1) = e a by unfold lastE; rw [if_neg (by omega), show a + 1 - 1 = a by omega]] at this
      rw [this]
      refine Prod.ext rfl ?_
      funext j
      simp only []
      by_cases e2 : j = a
      · subst e2
        rw [if_neg (by omega), if_pos rfl, if_pos (by omega)]
      · rw [if_neg e2]
        by_cases e3 : a + 1 ≤ j ∧ j < k
        · rw [if_pos e3, if_pos (by omega)]
        · rw [if_neg e3, if_neg (by omega)]
theorem tmod_small {i n : Int} (h0 : 0 ≤ i) (h1 : i < n) : i.tmod n = i := Int.tmod_eq_of_lt h0 h1
theorem tmod_in {i n : Int} (h0 : 0 ≤ i) (hn : 0 < n) : 0 ≤ i.tmod n ∧ i.tmod n < n := by
  rw [Int.tmod_eq_emod_of_nonneg h0]
  exact ⟨Int.emod_nonneg _ (by omega), Int.emod_lt_of_pos _ hn⟩
/-- What the disk has of a log: S is what is safe, e the sectors' epochs. -/
structure Keep (W : WS) (R : Int → List Rc_) (S : List ByteArray) (e : Int → Int) : Prop where
  rows : Rows W R
  low : W.low = 1
  n : 8 ≤ W.n ∧ W.n ≤ 64
  base : 0 ≤ W.base ∧ W.base + W.n ≤ S.length
  nx : nxW W ≤ W.n + 1
  ep : 1 ≤ W.ep
  safe : ∀ i, 1 ≤ i → i < W.first → cut S (placeW W i) = secB (e i) i (B (bytesW (R i)))
  eps : ∀ i, 1 ≤ i → i < W.first → 1 ≤ e i ∧ e i ≤ W.ep
  mono : ∀ i, 1 ≤ i → i + 1 < W.first → e i ≤ e (i + 1)
  stale : ∀ i, W.first ≤ i → i ≤ W.n → valS (cut S (placeW W i)) → epS (cut S (placeW W i)) < W.ep
  stop : W.first ≤ W.n → Ref (lastE e W.first) (whole1 (cut S (placeW W W.first)) W.first)
theorem cut_rep (L : Nat) (s : ByteArray) (p : Int) (h0 : 0 ≤ p) (h1 : p < L) : cut (List.replicate L s) p = s := by
  unfold cut
  rw [List.getElem?_replicate, if_pos (by omega)]
  rfl
theorem keep_new {L : Nat} {base n : Int} (hn : 8 ≤ n ∧ n ≤ 64) (hb : 0 ≤ base ∧ base + n ≤ L) : Keep (newW base n) (fun _ => []) (newD L).safe (fun _ => 0) := by
  have hc : ∀ i, 0 ≤ i → cut (newD L).safe (placeW (newW base n) i) = noughts 128 := fun i hi => by
    have := tmod_in hi (show 0 < n by omega)
    refine cut_rep L _ _ ?_ ?_
    · show 0 ≤ base + i.tmod n; omega
    · show base + i.tmod n < L; omega
  refine ⟨rows_new base n, rfl, hn, ⟨hb.1, ?_⟩, ?_, ?_, fun i h1 h2 => ?_, fun i h1 h2 => ?_, fun i h1 h2 => Int.le_refl _, fun i h1 h2 hv => ?_, fun h1 => ?_⟩
  · show base + n ≤ ((List.replicate L (noughts 128)).length : Int)
    rw [List.length_replicate]; exact hb.2
  · show nxW (newW base n) ≤ n + 1
    have : nxW (newW base n) = 1 := rfl
    omega
  · show (1 : Int) ≤ 1; omega
  · have h2 : i < (1 : Int) := h2
    omega
  · have h2 : i < (1 : Int) := h2
    omega
  · have h1 : (1 : Int) ≤ i := h1
    rw [hc i (by omega)] at hv
    exact absurd hv not_val
  · rw [hc _ (by show (0 : Int) ≤ 1; omega), whole1_not _ not_val]
    exact ref_none _
variable {W : WS} {R : Int → List Rc_} {S : List ByteArray} {e : Int → Int} {d : DS}
theorem Keep.pl (h : Keep W R S e) {i : Int} (hi : 0 ≤ i) : 0 ≤ placeW W i ∧ placeW W i < S.length := by
  have := tmod_in hi (show 0 < W.n by have := h.n; omega)
  have := h.base
  unfold placeW
  omega
theorem Keep.op_le (h : Keep W R S e) : W.op ≤ nxW W ∧ nxW W ≤ W.op + 1 := by unfold nxW; split <;> omega
theorem Keep.inj (h : Keep W R S e) {i j : Int} (i1 : 1 ≤ i) (i2 : i ≤ W.n) (j1 : 1 ≤ j) (j2 : j ≤ W.n) (hp : placeW W i = placeW W j) : i = j := by
  unfold placeW at hp
  by_cases a : i = W.n
  · by_cases b : j = W.n
    · omega
    · rw [a, Int.tmod_self, tmod_small (by omega) (by omega)] at hp; omega
  · by_cases b : j = W.n
    · rw [b, Int.tmod_self, tmod_small (i := i) (by omega) (by omega)] at hp; omega
    · rw [tmod_small (i := i) (by omega) (by omega), tmod_small (i := j) (by omega) (by omega)] at hp; omega
theorem keep_put (h : Keep W R S e) {r : Rc_} (hm : mayB r = true) {i : Int} (g : Goes W R r i) : Keep (putW W R r i) (putR R i r) S e := by
  have hge := g.ge
  have ho := h.rows.ord
  have hnx := put_nx h.rows hm g
  refine ⟨put_rows h.rows hm g, h.low, h.n, h.base, ?_, h.ep, fun j h1 h2 => ?_, h.eps, h.mono, h.stale, h.stop⟩
  · rw [hnx.1]
    show i + 1 ≤ W.n + 1
    by_cases e1 : R i = []
    · have := g.room e1
      have := h.low
      omega
    · have e2 : i = W.op := by
        rcases g.sec with x | ⟨x, _⟩
        · exact x
        · exact absurd (h.rows.hi i (by omega)) e1
      have : nxW W = W.op + 1 := by
        unfold nxW
        rw [if_neg (fun x => e1 (e2 ▸ (h.rows.empty _).1 x))]
      have := h.nx
      omega
  · have h2 : j < W.first := h2
    rw [putR_off R r (by omega)]
    exact h.safe j h1 h2
/-- The writes of a Flush. -/
def wrL (W : WS) (k : Nat) : WL := (List.range k).map fun (q : Nat) => (placeW W (W.first + q), secW W (W.first + q))
theorem wrL_succ (W : WS) (k : Nat) : wrL W (k + 1) = wrL W k ++ [(placeW W (W.first + k), secW W (W.first + k))] := by
  unfold wrL
  rw [List.range_succ, List.map_append]
  rfl
theorem wrL_mono (W : WS) {a b : Nat} (h : a ≤ b) : ∀ q ∈ wrL W a, q ∈ wrL W b := by
  intro q hq
  obtain ⟨k, hk, rfl⟩ := List.mem_map.1 hq
  exact List.mem_map.2 ⟨k, List.mem_range.2 (by have := List.mem_range.1 hk; omega), rfl⟩
theorem Keep.sec (h : Keep W R S e) (i : Int) : secW W i = secB W.ep i (B (bytesW (R i))) := by
  unfold secW secB
  rw [h.rows.body]
theorem flushL_keep (h : Keep W R S e) (hep : W.ep < 4294967296) : ∀ (k q : Nat) (d : DS), Mid S (wrL W q) d → W.first + q + k = W.op + 1 → W.first + q ≤ nxW W →
    (flushL W k (W.first + q) d).1 = 0 ∧ (flushL W k (W.first + q) d).2.1 = nxW W ∧ Mid S (wrL W (nxW W - W.first).toNat) (flushL W k (W.first + q) d).2.2 ∧ (d.fuse = -1 → (flushL W k (W.first + q) d).2.2.fuse = -1)
    ∨ (flushL W k (W.first + q) d).1 = 4 ∧ Ded S (wrL W (nxW W - W.first).toNat) (flushL W k (W.first + q) d).2.2 ∧ d.fuse ≠ -1 := by
  intro k
  have ho := h.rows.ord
  have hol := h.op_le
  have hlow := h.low
  have hnn := h.n
  have hnx := h.nx
  have hep1 := h.ep
  induction k with
  | zero =>
    intro q d hm hk hq
    unfold flushL
    left
    have e1 : nxW W = W.first + q := by omega
    refine ⟨rfl, e1.symm, ?_, fun x => x⟩
    rw [show (nxW W - W.first).toNat = q by omega]
    exact hm
  | succ k ih =>
    intro q d hm hk hq
    unfold flushL
    by_cases hb : W.first + q ≤ W.op ∧ bdy W (W.first + q) ≠ ⟨#[]⟩
    · have hb1 := hb.1
      have hlt : W.first + q < nxW W := by
        by_cases x : W.first + (q : Int) = W.op
        · have : ¬ bdy W W.op = ⟨#[]⟩ := fun y => hb.2 (by rw [x]; exact y)
          have : nxW W = W.op + 1 := if_neg this
          omega
        · omega
      have hpl := h.pl (i := W.first + q) (by omega)
      have hsz : (secW W (W.first + q)).size = 128 := by
        rw [h.sec]
        exact secB_size (by omega) (by omega) (by rw [B_size]; exact h.rows.len _)
      rw [if_pos hb]
      rcases mid_write hm hpl.1 hpl.2 hsz with ⟨e1, m1⟩ | ⟨e1, m1⟩
      · rw [if_neg (by rw [e1]; decide)]
        rw [← wrL_succ] at m1
        have := ih (q + 1) _ m1 (by push_cast; omega) (by push_cast; omega)
        rw [show W.first + ((q + 1 : Nat) : Int) = W.first + q + 1 by push_cast; omega] at this
        rcases this with ⟨a1, a2, a3, a4⟩ | ⟨a1, a2, a3⟩
        · exact .inl ⟨a1, a2, a3, fun x => a4 ((free_write hm.2.2 x _ _).2.2)⟩
        · exact .inr ⟨a1, a2, fun x => a3 ((free_write hm.2.2 x _ _).2.2)⟩
      · rw [if_pos (by rw [e1]; decide)]
        exact .inr ⟨e1, m1.mono (wrL_mono W (by omega)), fun x => (free_write hm.2.2 x _ _).1 e1⟩
    · rw [if_neg hb]
      have hz : bdy W (W.first + q) = ⟨#[]⟩ := by
        by_cases z : bdy W (W.first + q) = ⟨#[]⟩
        · exact z
        · exact absurd ⟨by omega, z⟩ hb
      have e1 : W.first + (q : Int) = W.op := by
        by_cases x : W.first + (q : Int) = W.op
        · exact x
        · exact absurd ((h.rows.empty _).1 hz) (h.rows.full _ (by omega) (by omega))
      have e2 : nxW W = W.op := if_pos (by rw [← e1]; exact hz)
      left
      refine ⟨rfl, by show W.first + (q : Int) = nxW W; omega, ?_, fun x => x⟩
      rw [show (nxW W - W.first).toNat = q by omega]
      exact hm
theorem last_wr (h : Keep W R S e) : ∀ k : Nat, W.first + k ≤ W.n + 1 → ∀ i, 1 ≤ i → i ≤ W.n → lastOf (wrL W k) (placeW W i) = if W.first ≤ i ∧ i < W.first + k then some (secW W i) else none := by
  intro k
  have ho := h.rows.ord
  have hlow := h.low
  induction k with
  | zero => intro _ i _ _; rw [if_neg (by omega)]; rfl
  | succ k ih =>
    intro hk i h1 h2
    rw [wrL_succ, last_push]
    simp only []
    by_cases x : i = W.first + k
    · rw [if_pos (by rw [x]), if_pos (by push_cast; omega), x]
    · rw [if_neg (fun y => x (h.inj h1 h2 (by omega) (by push_cast at hk; omega) y)), ih (by push_cast at hk; omega) i h1 h2]
      by_cases y : W.first ≤ i ∧ i < W.first + k
      · rw [if_pos y, if_pos (by push_cast; omega)]
      · rw [if_neg y, if_neg (by push_cast; omega)]
theorem mem_wr (h : Keep W R S e) {k : Nat} (hk : W.first + k ≤ W.n + 1) {i : Int} (h1 : 1 ≤ i) (h2 : i ≤ W.n) {s : ByteArray} (hm : (placeW W i, s) ∈ wrL W k) : (W.first ≤ i ∧ i < W.first + k) ∧ s = secW W i := by
  have ho := h.rows.ord
  have hlow := h.low
  obtain ⟨q, hq, e1⟩ := List.mem_map.1 hm
  have hq := List.mem_range.1 hq
  injection e1 with e1 e2
  have := h.inj (i := W.first + q) (by omega) (by omega) h1 h2 e1
  subst this
  exact ⟨by omega, e2.symm⟩
/-- The epochs behind a Flush. -/
def eN (W : WS) (e : Int → Int) : Int → Int := fun i => if i < W.first then e i else W.ep
theorem lastE_first (W : WS) (e : Int → Int) : lastE (eN W e) W.first = lastE e W.first := by
  unfold lastE eN
  split
  · rfl
  · rw [if_pos (by omega)]
theorem lastE_past (W : WS) (e : Int → Int) {k : Int} (h1 : 1 ≤ W.first) (h : W.first < k) : lastE (eN W e) k = W.ep := by
  unfold lastE eN
  rw [if_neg (by omega), if_neg (by omega)]
/-- The log behind a Flush. -/
def doneW (W : WS) : WS := { W with first := nxW W, op := nxW W }
theorem done_rows (h : Rows W R) : Rows (doneW W) R ∧ nxW (doneW W) = nxW W := by
  have ho := h.ord
  have hol : W.op ≤ nxW W ∧ nxW W ≤ W.op + 1 := by unfold nxW; split <;> omega
  have hz : bdy W (nxW W) = ⟨#[]⟩ := by
    by_cases z : bdy W W.op = ⟨#[]⟩
    · have : nxW W = W.op := if_pos z
      rw [this]; exact z
    · have : nxW W = W.op + 1 := if_neg z
      rw [this, h.empty, h.hi _ (by omega)]
  refine ⟨⟨h.body, h.may, h.lo, fun i hi => h.hi i (by have hi : nxW W < i := hi; omega), fun i h1 h2 => ?_, h.len, ?_⟩, if_pos hz⟩
  · have h2 : i < nxW W := h2
    by_cases x : i < W.op
    · exact h.full i h1 x
    · have e1 : i = W.op := by omega
      have e2 : ¬ bdy W W.op = ⟨#[]⟩ := fun z => by
        have : nxW W = W.op := if_pos z
        omega
      rw [e1]
      exact fun z => e2 ((h.empty _).2 z)
  · show 0 ≤ W.low ∧ W.low ≤ nxW W ∧ nxW W ≤ nxW W
    omega
/-- The row that is safe behind a Flush. -/
def newS (W : WS) (S : List ByteArray) : List ByteArray := overF (lastOf (wrL W (nxW W - W.first).toNat)) S
theorem newS_cut (h : Keep W R S e) {i : Int} (h1 : 1 ≤ i) (h2 : i ≤ W.n) : cut (newS W S) (placeW W i) = if W.first ≤ i ∧ i < nxW W then secW W i else cut S (placeW W i) := by
  have hp := h.pl (i := i) (by omega)
  have ho := h.rows.ord
  have hol := h.op_le
  have hnx := h.nx
  unfold newS
  rw [cut_over _ _ _ hp.1 hp.2, last_wr h _ (by omega) i h1 h2]
  by_cases x : W.first ≤ i ∧ i < nxW W
  · rw [if_pos (by omega), if_pos x]; rfl
  · rw [if_neg (by omega), if_neg x]; rfl
theorem ref_past (h : Keep W R S e) {k : Int} (h1 : W.first < k) (h2 : k ≤ W.n) {s : ByteArray} (hs : s = cut S (placeW W k)) : Ref (lastE (eN W e) k) (whole1 s k) := by
  have ho := h.rows.ord
  have hlow := h.low
  subst hs
  rw [lastE_past W e (by omega) h1]
  intro q hq
  obtain ⟨v1, v2⟩ := whole1_val hq
  rw [v2]
  exact h.stale k (by omega) h2 v1
theorem eN_mono (h : Keep W R S e) {i : Int} (h1 : 1 ≤ i) : eN W e i ≤ eN W e (i + 1) := by
  unfold eN
  by_cases x : i + 1 < W.first
  · rw [if_pos (by omega), if_pos x]; exact h.mono i h1 x
  · rw [if_neg x]
    by_cases y : i < W.first
    · rw [if_pos y]; exact (h.eps i h1 y).2
    · rw [if_neg y]; exact Int.le_refl _
theorem eN_in (h : Keep W R S e) {i : Int} (h1 : 1 ≤ i) : 1 ≤ eN W e i ∧ eN W e i ≤ W.ep := by
  unfold eN
  split
  · exact h.eps i h1 (by assumption)
  · exact ⟨h.ep, Int.le_refl _⟩
theorem keep_done (h : Keep W R S e) : Keep (doneW W) R (newS W S) (eN W e) := by
  have ho := h.rows.ord
  have hol := h.op_le
  have hlow := h.low
  have hnx := h.nx
  obtain ⟨r1, r2⟩ := done_rows h.rows
  have hc : ∀ i, 1 ≤ i → i ≤ W.n → cut (newS W S) (placeW (doneW W) i) = if W.first ≤ i ∧ i < nxW W then secW W i else cut S (placeW W i) := fun i a b => newS_cut h a b
  refine ⟨r1, hlow, h.n, ⟨h.base.1, ?_⟩, by rw [r2]; exact hnx, h.ep, fun i h1 h2 => ?_, fun i h1 h2 => ?_, fun i h1 h2 => eN_mono h h1, fun i h1 h2 hv => ?_, fun h1 => ?_⟩
  · show W.base + W.n ≤ ((newS W S).length : Int)
    unfold newS; rw [over_len]; exact h.base.2
  · have h2 : i < nxW W := h2
    rw [hc i h1 (by omega)]
    unfold eN
    by_cases x : i < W.first
    · rw [if_neg (by omega), if_pos x]; exact h.safe i h1 x
    · rw [if_pos (by omega), if_neg x, h.sec]
  · exact eN_in h h1
  · have h1 : nxW W ≤ i := h1
    have h2 : i ≤ W.n := h2
    rw [hc i (by omega) h2, if_neg (by omega)] at hv ⊢
    exact h.stale i (by omega) h2 hv
  · have h1 : nxW W ≤ W.n := h1
    show Ref (lastE (eN W e) (nxW W)) (whole1 (cut (newS W S) (placeW (doneW W) (nxW W))) (nxW W))
    rw [hc _ (by omega) h1, if_neg (by omega)]
    by_cases x : nxW W = W.first
    · rw [x, lastE_first]; exact h.stop (by omega)
    · exact ref_past h (by omega) h1 rfl
theorem done_same (h : Rows W R) (hn : nxW W = W.first) : doneW W = W := by
  have ho := h.ord
  have hol : W.op ≤ nxW W ∧ nxW W ≤ W.op + 1 := by unfold nxW; split <;> omega
  have e1 : W.op = W.first := by omega
  unfold doneW
  rw [hn]
  cases W with
  | mk a b c d e f g =>
    have e2 : e = d := e1
    subst e2
    rfl
theorem newS_same (W : WS) (S : List ByteArray) (hn : nxW W = W.first) : newS W S = S := by
  unfold newS
  rw [hn, Int.sub_self]
  show overF (lastOf []) S = S
  rw [last_nil, over_none]
/-- What a Flush does: all is safe, or the power goes. -/
theorem flush_keep (h : Keep W R S e) (hep : W.ep < 4294967296) (hm : Mid S [] d) :
    ((flushW W d).1 = 0 ∧ (flushW W d).2.1 = doneW W ∧ Mid (newS W S) [] (flushW W d).2.2 ∧ (d.fuse = -1 → (flushW W d).2.2.fuse = -1))
    ∨ ((flushW W d).1 = 4 ∧ (flushW W d).2.1 = W ∧ Ded S (wrL W (nxW W - W.first).toNat) (flushW W d).2.2 ∧ d.fuse ≠ -1) := by
  have ho := h.rows.ord
  have hol := h.op_le
  have hl := flushL_keep h hep (W.op + 1 - W.first).toNat 0 d hm (by omega) (by omega)
  rw [show W.first + ((0 : Nat) : Int) = W.first by omega] at hl
  unfold flushW
  unfold flushR
  generalize flushL W (W.op + 1 - W.first).toNat W.first d = x at *
  rcases hl with ⟨a1, a2, a3, a4⟩ | ⟨a1, a2, a3⟩
  · rw [if_neg (by rw [a1]; decide), a2]
    by_cases y : nxW W = W.first
    · rw [if_pos y, done_same h.rows y, newS_same W S y]
      left
      rw [y, Int.sub_self] at a3
      exact ⟨rfl, rfl, a3, a4⟩
    · rw [if_neg y]
      rcases mid_sync a3 with ⟨e1, m1⟩ | ⟨e1, m1⟩
      · rw [if_neg (by rw [e1]; decide)]
        exact .inl ⟨rfl, rfl, m1, fun z => (free_sync a3.2.2 (a4 z)).2.2⟩
      · rw [if_pos (by rw [e1]; decide)]
        refine .inr ⟨e1, rfl, m1, fun z => ?_⟩
        have := (free_sync a3.2.2 (a4 z)).1
        omega
  · rw [if_pos (by rw [a1]; decide)]
    exact .inr ⟨a1, rfl, a2, a3⟩
end Go.Proofs.Ytbnglmeljbiglaa.Wl
set_option maxRecDepth 8192
namespace Go.Proofs.Ytbnglmeljbiglaa.Wl
open Go.Proofs.Ytbnglmeljbiglaa.X4 Go.Proofs.Ytbnglmeljbiglaa.Pt Go.Proofs.Ytbnglmeljbiglaa.Ptb Go.Proofs.Ytbnglmeljbiglaa.Rp Go.Proofs.Ytbnglmeljbiglaa.Cr Go Go.RowKit Go.ChangeMaps Go.Proofs.Ytbnglmeljbiglaa.Arr Go.Proofs.Ytbnglmeljbiglaa.Mp Go.Proofs.Ytbnglmeljbiglaa.Ow Go.Proofs.Ytbnglmeljbiglaa.Dk Go.Proofs.Ytbnglmeljbiglaa.Fr Go.Proofs.YtbnglmeljbiglaaW.PrintWords
set_option linter.unusedVariables false
set_option linter.unusedSimpArgs false
/-- The records below a sector. -/
def cutR (R : Int → List Rc_) (k : Int) : Int → List Rc_ := fun j => if 1 ≤ j ∧ j < k then R j else []
theorem cutR_in (R : Int → List Rc_) {j k : Int} (h : 1 ≤ j ∧ j < k) : cutR R k j = R j := if_pos h
theorem cutR_off (R : Int → List Rc_) {j k : Int} (h : ¬ (1 ≤ j ∧ j < k)) : cutR R k j = [] := if_neg h
/-- A quiet disk, whose sectors below k say the records. -/
structure Said (base n : Int) (R : Int → List Rc_) (T : List ByteArray) (e : Int → Int) (k : Int) : Prop where
  hn : 8 ≤ n ∧ n ≤ 64
  hb : 0 ≤ base ∧ base + n ≤ T.length
  hk : 1 ≤ k ∧ k ≤ n + 1
  sec : ∀ j, 1 ≤ j → j < k → cut T (base + j.tmod n) = secB (e j) j (B (bytesW (R j)))
  rows : ∀ j, 1 ≤ j → j < k → R j ≠ [] ∧ (∀ r ∈ R j, mayB r = true)
  len : ∀ j, (bytesW (R j)).length ≤ 112
  eps : ∀ j, 1 ≤ j → j < k → 1 ≤ e j ∧ e j < 4294967296
  mono : ∀ j, 1 ≤ j → j + 1 < k → e j ≤ e (j + 1)
  stop : k ≤ n → Ref (lastE e k) (whole1 (cut T (base + k.tmod n)) k)
section
variable {base n k : Int} {R : Int → List Rc_} {T : List ByteArray} {e : Int → Int} {d : DS}
theorem Said.pl (h : Said base n R T e k) {i : Int} (hi : 0 ≤ i) : 0 ≤ base + i.tmod n ∧ base + i.tmod n < T.length := by
  have := tmod_in hi (show 0 < n by have := h.hn; omega)
  have := h.hb
  omega
/-- What is opened. -/
theorem said_open (h : Said base n R T e k) (hq : Mid T [] d) : openW d base n 1 = ⟨base, n, 1, k, k, latestF d base n.toNat + 1, fun j => if 1 ≤ j ∧ j < k then some (B (bytesW (R j))) else none⟩ := by
  have hn := h.hn
  have hk := h.hk
  have := scan_run (R := R) (e := e) (k := k) hq (fun i hi => h.pl hi) (fun j h1 h2 => by rw [h.sec j h1 h2]; exact whole1_sec (by have := h.eps j h1 h2; omega) (by omega) (h.len j) (h.rows j h1 h2).1 (h.rows j h1 h2).2) (fun j h1 h2 => by have := h.eps j h1 h2; omega) h.mono h.stop hk.2 n.toNat 1 (fun _ => none) (by omega) hk.1 (by omega)
  rw [show lastE e 1 = 0 from rfl] at this
  unfold openW
  rw [this]
theorem said_ge (h : Said base n R T e k) (hq : Mid T [] d) {i : Int} (i1 : 0 ≤ i) (hv : valS (cut T (base + i.tmod n))) : epS (cut T (base + i.tmod n)) ≤ latestF d base n.toNat := by
  have hp := h.pl i1
  have hm := tmod_in i1 (show 0 < n by have := h.hn; omega)
  have h1 := latest_ge d base n.toNat (i.tmod n).toNat (by omega)
  rw [show base + (((i.tmod n).toNat : Nat) : Int) = base + i.tmod n by omega, quiet_readS hq hp.1 hp.2] at h1
  exact h1 hv
theorem said_keep (h : Said base n R T e k) (hq : Mid T [] d) : Keep (openW d base n 1) (cutR R k) T e ∧ (openW d base n 1).first = k ∧ (openW d base n 1).op = k ∧ (openW d base n 1).ep = latestF d base n.toNat + 1 ∧ nxW (openW d base n 1) = k ∧ (openW d base n 1).n = n ∧ (openW d base n 1).base = base := by
  have ho := said_open h hq
  have hn := h.hn
  have hk := h.hk
  have hlat := latest_nn d base n.toNat
  obtain ⟨W, hW⟩ : ∃ W, W = openW d base n 1 := ⟨_, rfl⟩
  rw [← hW] at ho ⊢
  have hb : ∀ j, bdy W j = B (bytesW (cutR R k j)) := fun j => by
    rw [ho]
    show (if 1 ≤ j ∧ j < k then some (B (bytesW (R j))) else none).getD _ = _
    unfold cutR
    split <;> rfl
  have hrows : Rows W (cutR R k) := by
    refine ⟨hb, fun i r hr => ?_, fun i hi => ?_, fun i hi => ?_, fun i h1 h2 => ?_, fun i => ?_, ?_⟩
    · by_cases x : 1 ≤ i ∧ i < k
      · rw [cutR_in R x] at hr; exact (h.rows i x.1 x.2).2 r hr
      · rw [cutR_off R x] at hr; cases hr
    · rw [ho] at hi
      have hi : i < (1 : Int) := hi
      exact cutR_off R (by omega)
    · rw [ho] at hi
      have hi : k < i := hi
      exact cutR_off R (by omega)
    · rw [ho] at h1 h2
      have h1 : (1 : Int) ≤ i := h1
      have h2 : i < k := h2
      rw [cutR_in R ⟨h1, h2⟩]
      exact (h.rows i h1 h2).1
    · unfold cutR
      split
      · exact h.len i
      · exact Nat.zero_le _
    · rw [ho]
      show (0 : Int) ≤ 1 ∧ (1 : Int) ≤ k ∧ k ≤ k
      omega
  have hz : bdy W W.op = ⟨#[]⟩ := by
    rw [hrows.empty, ho]
    exact cutR_off R (by show ¬ (1 ≤ k ∧ k < k); omega)
  have hnx : nxW W = k := by
    have : nxW W = W.op := if_pos hz
    rw [this, ho]
  have hf : W.first = k := by rw [ho]
  have hpl : ∀ i, placeW W i = base + i.tmod n := fun i => by rw [ho]; rfl
  have hep : W.ep = latestF d base n.toNat + 1 := by rw [ho]
  have hWn : W.n = n := by rw [ho]
  have hWb : W.base = base := by rw [ho]
  have heps : ∀ i, 1 ≤ i → i < k → e i ≤ latestF d base n.toNat := fun i h1 h2 => by
    have a := h.eps i h1 h2
    have b := secB_val (e := e i) (i := i) (b := B (bytesW (R i))) (by omega) (by omega) (by rw [B_size]; exact h.len i)
    have := said_ge h hq (i := i) (by omega) (by rw [h.sec i h1 h2]; exact b.1)
    rw [h.sec i h1 h2, b.2] at this
    exact this
  refine ⟨⟨hrows, by rw [ho], by rw [hWn]; exact hn, by rw [hWn, hWb]; exact h.hb, by rw [hnx, hWn]; exact hk.2, by rw [hep]; omega, fun i h1 h2 => ?_, fun i h1 h2 => ?_, fun i h1 h2 => ?_, fun i h1 h2 hv => ?_, fun h1 => ?_⟩, hf, by rw [ho], hep, hnx, hWn, hWb⟩
  · rw [hf] at h2
    rw [hpl, cutR_in R ⟨h1, h2⟩]
    exact h.sec i h1 h2
  · rw [hf] at h2
    have := h.eps i h1 h2
    have := heps i h1 h2
    rw [hep]
    omega
  · rw [hf] at h2
    exact h.mono i h1 h2
  · rw [hf] at h1
    rw [hpl] at hv ⊢
    have := said_ge h hq (i := i) (by omega) hv
    rw [hep]
    omega
  · rw [hf, hWn] at h1
    rw [hf, hpl]
    exact h.stop h1
end
variable {W : WS} {R : Int → List Rc_} {S T : List ByteArray} {e : Int → Int} {d : DS}
/-- All sectors of a log have epochs that are no greater than its own. -/
theorem Keep.all_le (h : Keep W R S e) (hep : W.ep < 4294967296) {i : Int} (h1 : 1 ≤ i) (h2 : i ≤ W.n) (hv : valS (cut S (placeW W i))) : epS (cut S (placeW W i)) ≤ W.ep := by
  have hn := h.n
  by_cases x : i < W.first
  · have a := h.eps i h1 x
    rw [h.safe i h1 x, (secB_val (by omega) (by omega) (by rw [B_size]; exact h.rows.len i)).2]
    exact a.2
  · exact Int.le_of_lt (h.stale i (by omega) h2 hv)
theorem latest_keep (W : WS) (hn : 1 ≤ W.n) (hq : Mid T [] d) (hb : 0 ≤ W.base ∧ W.base + W.n ≤ T.length) {E : Int} (h0 : 0 ≤ E) (h : ∀ i, 1 ≤ i → i ≤ W.n → valS (cut T (placeW W i)) → epS (cut T (placeW W i)) ≤ E) : latestF d W.base W.n.toNat ≤ E := by
  refine latest_le d W.base E h0 W.n.toNat (fun j hj hv => ?_)
  rw [quiet_readS hq (by omega) (by omega)] at hv ⊢
  have hp : ∃ i, (1 ≤ i ∧ i ≤ W.n) ∧ placeW W i = W.base + (j : Int) := by
    by_cases x : j = 0
    · refine ⟨W.n, by omega, ?_⟩
      unfold placeW
      rw [Int.tmod_self, x]; rfl
    · refine ⟨j, by omega, ?_⟩
      unfold placeW
      rw [tmod_small (by omega) (by omega)]
  obtain ⟨i, hi, e1⟩ := hp
  rw [← e1] at hv ⊢
  exact h i hi.1 hi.2 hv
/-- A quiet log says its records. -/
theorem Keep.said (h : Keep W R S e) (hep : W.ep < 4294967296) : Said W.base W.n R S e W.first := by
  have ho := h.rows.ord
  have hol := h.op_le
  have hnx := h.nx
  have hlow := h.low
  refine ⟨h.n, h.base, by omega, h.safe, fun j h1 h2 => ⟨h.rows.full j (by omega) (by omega), h.rows.may j⟩, h.rows.len, fun j h1 h2 => ?_, h.mono, h.stop⟩
  have := h.eps j h1 h2
  omega
/-- What a crash in a Flush leaves: a beginning of what was to be safe. -/
theorem crash_said (h : Keep W R S e) (hep : W.ep < 4294967296) (ho : Out S (wrL W (nxW W - W.first).toNat) T) : ∃ k, (W.first ≤ k ∧ k ≤ nxW W) ∧ Said W.base W.n R T (eN W e) k ∧ ∀ i, 1 ≤ i → i ≤ W.n → valS (cut T (placeW W i)) → epS (cut T (placeW W i)) ≤ W.ep := by
  have hor := h.rows.ord
  have hol := h.op_le
  have hnx := h.nx
  have hlow := h.low
  have hn := h.n
  have hep1 := h.ep
  have sv : ∀ i, 1 ≤ i → i ≤ W.n → valS (secW W i) ∧ epS (secW W i) = W.ep := fun i h1 h2 => by
    rw [h.sec]
    exact secB_val (by omega) (by omega) (by rw [B_size]; exact h.rows.len i)
  have at_ : ∀ i, 1 ≤ i → i ≤ W.n → cut T (placeW W i) = cut S (placeW W i) ∨ ((W.first ≤ i ∧ i < nxW W) ∧ (cut T (placeW W i) = secW W i ∨ cut T (placeW W i) = noughts 128)) := fun i h1 h2 => by
    have hp := h.pl (i := i) (by omega)
    rcases ho.2 _ hp.1 hp.2 with x | ⟨s, m, x⟩ | ⟨⟨s, m⟩, x⟩
    · exact .inl x
    · obtain ⟨m1, m2⟩ := mem_wr h (by omega) h1 h2 m
      exact .inr ⟨by omega, .inl (x.trans m2)⟩
    · obtain ⟨m1, m2⟩ := mem_wr h (by omega) h1 h2 m
      exact .inr ⟨by omega, .inr x⟩
  have hle : ∀ i, 1 ≤ i → i ≤ W.n → valS (cut T (placeW W i)) → epS (cut T (placeW W i)) ≤ W.ep := fun i h1 h2 hv => by
    rcases at_ i h1 h2 with x | ⟨_, x | x⟩
    · rw [x] at hv ⊢; exact h.all_le hep h1 h2 hv
    · rw [x, (sv i h1 h2).2]; exact Int.le_refl _
    · rw [x] at hv; exact absurd hv not_val
  have hlen : T.length = S.length := ho.1
  have fin : ∀ k, W.first ≤ k → k ≤ nxW W → (∀ i, W.first ≤ i → i < k → cut T (placeW W i) = secW W i) → (k ≤ W.n → Ref (lastE (eN W e) k) (whole1 (cut T (placeW W k)) k)) → Said W.base W.n R T (eN W e) k := fun k k1 k2 hs hst => by
    refine ⟨hn, by rw [hlen]; exact h.base, by omega, fun j h1 h2 => ?_, fun j h1 h2 => ?_, h.rows.len, fun j h1 h2 => ?_, fun j h1 h2 => eN_mono h h1, hst⟩
    · show cut T (placeW W j) = _
      unfold eN
      by_cases x : j < W.first
      · rw [if_pos x]
        rcases at_ j h1 (by omega) with y | ⟨y, _⟩
        · rw [y]; exact h.safe j h1 x
        · omega
      · rw [if_neg x, hs j (by omega) h2, h.sec]
    · refine ⟨fun z => ?_, h.rows.may j⟩
      by_cases x : j < W.op
      · exact h.rows.full j (by omega) x z
      · have e1 : j = W.op := by omega
        have : nxW W = W.op := if_pos ((h.rows.empty _).2 (e1 ▸ z))
        omega
    · have := eN_in h h1
      omega
  have gen : ∀ m : Nat, W.first + m ≤ nxW W → (∀ i, W.first ≤ i → i < W.first + m → cut T (placeW W i) = secW W i) ∨ ∃ k, (W.first ≤ k ∧ k < W.first + m) ∧ (∀ i, W.first ≤ i → i < k → cut T (placeW W i) = secW W i) ∧ cut T (placeW W k) ≠ secW W k := by
    intro m
    induction m with
    | zero => intro _; exact .inl (fun i h1 h2 => by omega)
    | succ m ih =>
      intro hm
      rcases ih (by push_cast at hm; omega) with x | ⟨k, k1, k2, k3⟩
      · by_cases y : cut T (placeW W (W.first + m)) = secW W (W.first + m)
        · left
          intro i h1 h2
          by_cases z : i = W.first + m
          · rw [z]; exact y
          · exact x i h1 (by push_cast at h2; omega)
        · exact .inr ⟨W.first + m, by push_cast; omega, x, y⟩
      · exact .inr ⟨k, by push_cast; omega, k2, k3⟩
  rcases gen (nxW W - W.first).toNat (by omega) with x | ⟨k, k1, k2, k3⟩
  · refine ⟨nxW W, by omega, fin _ (by omega) (by omega) (fun i h1 h2 => x i h1 (by omega)) (fun hk => ?_), hle⟩
    have hs : cut T (placeW W (nxW W)) = cut S (placeW W (nxW W)) := by
      rcases at_ _ (by omega) hk with y | ⟨y, _⟩
      · exact y
      · omega
    by_cases z : nxW W = W.first
    · rw [hs, z, lastE_first]; exact h.stop (by omega)
    · exact ref_past h (by omega) hk hs
  · refine ⟨k, by omega, fin _ (by omega) (by omega) k2 (fun hk => ?_), hle⟩
    rcases at_ k (by omega) hk with y | ⟨_, y | y⟩
    · by_cases z : k = W.first
      · rw [y, z, lastE_first]; exact h.stop (by omega)
      · exact ref_past h (by omega) hk y
    · exact absurd y k3
    · rw [y, whole1_not _ not_val]; exact ref_none _
theorem wr_in (h : Keep W R S e) {k : Nat} (hk : W.first + k ≤ W.n + 1) : In S (wrL W k) := by
  intro q hq
  obtain ⟨j, hj, rfl⟩ := List.mem_map.1 hq
  have := h.rows.ord
  exact h.pl (by omega)
/-- A Flush in which the power may go, a crash, and the log is opened: it has a beginning of its records. -/
theorem crash_keep (h : Keep W R S e) (hep : W.ep < 4294967290) (hm : Mid S [] d) (m : Nat) (p : Nat → Nat) : ∃ k T e', (W.first ≤ k ∧ k ≤ nxW W) ∧ ((flushW W d).1 = 0 → k = nxW W) ∧ crashD m p (flushW W d).2.2 = ⟨T, [], false, -1⟩ ∧ T.length = S.length ∧
    Keep (openW ⟨T, [], false, -1⟩ W.base W.n 1) (cutR R k) T e' ∧ (openW ⟨T, [], false, -1⟩ W.base W.n 1).first = k ∧ (openW ⟨T, [], false, -1⟩ W.base W.n 1).op = k ∧ nxW (openW ⟨T, [], false, -1⟩ W.base W.n 1) = k ∧ (openW ⟨T, [], false, -1⟩ W.base W.n 1).ep ≤ W.ep + 1 ∧ latestF ⟨T, [], false, -1⟩ W.base W.n.toNat ≤ W.ep ∧ (openW ⟨T, [], false, -1⟩ W.base W.n 1).n = W.n ∧ (openW ⟨T, [], false, -1⟩ W.base W.n 1).base = W.base := by
  have hor := h.rows.ord
  have hol := h.op_le
  have hnx := h.nx
  have hn := h.n
  have hep1 := h.ep
  have fin : ∀ (k : Int) (T : List ByteArray) (e' : Int → Int), (W.first ≤ k ∧ k ≤ nxW W) → T.length = S.length → Said W.base W.n R T e' k → (∀ i, 1 ≤ i → i ≤ W.n → valS (cut T (placeW W i)) → epS (cut T (placeW W i)) ≤ W.ep) →
      Keep (openW ⟨T, [], false, -1⟩ W.base W.n 1) (cutR R k) T e' ∧ (openW ⟨T, [], false, -1⟩ W.base W.n 1).first = k ∧ (openW ⟨T, [], false, -1⟩ W.base W.n 1).op = k ∧ nxW (openW ⟨T, [], false, -1⟩ W.base W.n 1) = k ∧ (openW ⟨T, [], false, -1⟩ W.base W.n 1).ep ≤ W.ep + 1 ∧ latestF ⟨T, [], false, -1⟩ W.base W.n.toNat ≤ W.ep ∧ (openW ⟨T, [], false, -1⟩ W.base W.n 1).n = W.n ∧ (openW ⟨T, [], false, -1⟩ W.base W.n 1).base = W.base := fun k T e' hk hl hs hle => by
    have hq : Mid T [] ⟨T, [], false, -1⟩ := ⟨rfl, rfl, rfl⟩
    obtain ⟨a1, a2, a3, a4, a5, a6, a7⟩ := said_keep hs hq
    have hla := latest_keep W (by omega) hq (by rw [hl]; exact h.base) (by omega) hle
    exact ⟨a1, a2, a3, a5, by rw [a4]; omega, hla, a6, a7⟩
  rcases flush_keep h (by omega) hm with ⟨f1, f2, f3, f4⟩ | ⟨f1, f2, f3, f4⟩
  · have hd := keep_done h
    have hs := hd.said (by show W.ep < 4294967296; omega)
    have hl : (newS W S).length = S.length := over_len _ _
    exact ⟨nxW W, newS W S, _, by omega, fun _ => rfl, mid_crash f3 m p, hl, fin (nxW W) (newS W S) _ (by omega) hl hs (fun i h1 h2 hv => hd.all_le (by show W.ep < 4294967296; omega) h1 h2 hv)⟩
  · obtain ⟨T, t1, t2⟩ := ded_crash f3 (wr_in h (by omega)) m p
    obtain ⟨k, k1, k2, k3⟩ := crash_said h (by omega) t2
    exact ⟨k, T, _, k1, fun x => by omega, t1, t2.1, fin k T _ k1 t2.1 k2 k3⟩
/-- All records, but those of the sectors from k on. -/
theorem allK_cut (R : Int → List Rc_) (k : Int) (m : Nat) (h : (m : Int) + 1 ≤ k) : allK (cutR R k) 1 m = allK R 1 m := by
  induction m with
  | zero => rfl
  | succ m ih =>
    rw [allK_succ, allK_succ, ih (by push_cast at h; omega)]
    unfold secE
    rw [cutR_in R (by push_cast at h; omega)]
theorem allK_pre (R : Int → List Rc_) (low : Int) (a b : Nat) (h : a ≤ b) : ∃ t, allK R low b = allK R low a ++ t := by
  induction b with
  | zero => rw [show a = 0 by omega]; exact ⟨[], by simp⟩
  | succ b ih =>
    by_cases x : a = b + 1
    · rw [x]; exact ⟨[], by simp⟩
    · obtain ⟨t, ht⟩ := ih (by omega)
      rw [allK_succ, ht]
      exact ⟨t ++ _, by rw [List.append_assoc]⟩
/-- All records up to the next sector. -/
theorem allR_nx (h : Rows W R) (hl : W.low = 1) : allR W R = allK R 1 (nxW W - 1).toNat := by
  have ho := h.ord
  unfold allR
  rw [hl]
  by_cases x : bdy W W.op = ⟨#[]⟩
  · have e1 : nxW W = W.op := if_pos x
    rw [show (W.op + 1 - 1).toNat = (nxW W - 1).toNat + 1 by omega, allK_succ, show (1 : Int) + (((nxW W - 1).toNat : Nat) : Int) = W.op by omega]
    have : secE R W.op = [] := by unfold secE; rw [(h.empty _).1 x]; rfl
    rw [this, List.append_nil]
  · have e1 : nxW W = W.op + 1 := if_neg x
    rw [show (W.op + 1 - 1).toNat = (nxW W - 1).toNat by omega]
theorem allR_open (h : Keep W R S e) {k : Int} (hk : W.first ≤ k ∧ k ≤ nxW W) {W' : WS} {S' : List ByteArray} {e' : Int → Int} (h' : Keep W' (cutR R k) S' e') (hx : nxW W' = k) : allR W' (cutR R k) = allK R 1 (k - 1).toNat := by
  have ho := h.rows.ord
  have hl := h.low
  rw [allR_nx h'.rows h'.low, hx, allK_cut R k _ (by omega)]
end Go.Proofs.Ytbnglmeljbiglaa.Wl
set_option maxRecDepth 8192
namespace Go.Proofs.Ytbnglmeljbiglaa.Wl
open Go.Proofs.Ytbnglmeljbiglaa.X4 Go.Proofs.Ytbnglmeljbiglaa.Pt Go.Proofs.Ytbnglmeljbiglaa.Ptb Go.Proofs.Ytbnglmeljbiglaa.Rp Go Go.RowKit Go.ChangeMaps Go.Proofs.Ytbnglmeljbiglaa.Arr Go.Proofs.Ytbnglmeljbiglaa.Mp Go.Proofs.Ytbnglmeljbiglaa.Ow Go.Proofs.Ytbnglmeljbiglaa.Dk Go.Proofs.Ytbnglmeljbiglaa.Fr Go.Proofs.YtbnglmeljbiglaaW.PrintWords Go.Proofs.YtbnglmeljbiglaaW.PrintLast Go.Proofs.YtbnglmeljbiglaaW.PrintMore
set_option linter.unusedVariables false
set_option linter.unusedSimpArgs false
theorem newdisk (L : Nat) (h1 : 1 ≤ L) (h2 : L ≤ 512) (w : World) (c : Nat → Nat) : Calls Try.prog 11 #[.int .i64 (L : Int)] w fun e w' => ∃ g, e = .returned (.tuple #[.pointer (some ⟨g, 0, none⟩), .int .i64 0]) ∧ DK w' (Col (Dk.paint c w.heap.size 1) 1) g (newD L) ∧ Fr [] w c w' (Dk.paint c w.heap.size 1) := by
  refine (new_calls L (by omega) (by omega) w).mono ?_
  rintro e w' ⟨g, hg, rfl, hk, hb⟩
  exact ⟨g, rfl, hk.fresh c 1, Fr.of_paint hb 1⟩
theorem arm_o {w : World} {c : Nat → Nat} {g : Nat} {d : DS} (h : DK w (Col c 1) g d) (k : Int) : Calls Try.prog 17 #[.pointer (some ⟨g, 0, none⟩), .int .i64 k] w fun x w' => x = .returned (.tuple #[]) ∧ ∃ c', Fr [1] w c w' c' ∧ DK w' (Col c' 1) g { d with fuse := max k (-1) } := by
  refine (arm_calls d g k (Col (Dk.paint c w.heap.size 1) 1) w (h.mono fun k hk e => (paint_old hk).trans e)).mono ?_
  rintro x w' ⟨rfl, hk, hf⟩
  exact ⟨rfl, _, fr_disk hf, hk⟩
theorem crash_o {w : World} {c : Nat → Nat} {g : Nat} {d : DS} (h : DK w (Col c 1) g d) (ho : OkD d) {A : Option Addr} {m cp : Nat} {p : Nat → Nat} (hp : ∀ c', (∀ k, k < w.heap.size → c' k = c k) → Pk w (Col c' 1) A m p) (hb : ∀ i, p i < 256) : Calls Try.prog 18 #[.pointer (some ⟨g, 0, none⟩), .slice A m cp] w fun x w' => x = .returned (.tuple #[]) ∧ ∃ c', Fr [1] w c w' c' ∧ DK w' (Col c' 1) g (crashD m p d) := by
  refine (crash_calls d g A m cp p (Col (Dk.paint c w.heap.size 1) 1) w (top_paint c w 1) (h.mono fun k hk e => (paint_old hk).trans e) ho (hp _ fun k hk => paint_old hk) hb).mono ?_
  rintro x w' ⟨rfl, hk, hf⟩
  exact ⟨rfl, _, fr_disk hf, hk⟩
theorem pk_old {w0 W : World} {c : Nat → Nat} {l : List Int} {A : Option Addr} (hG : Gr w0 W c) (h : Kd.C (Kd.int .u8) w0 A l.length l) (hb : ∀ y ∈ l, 0 ≤ y ∧ y < 256) : ∀ c', (∀ k, k < W.heap.size → c' k = c k) → Pk W (Col c' 1) A l.length (fun j => (l.getD j 0).toNat) := fun c' hc =>
  Lv.pk_in h hb hG.bel (fun k hk => (hc k (Nat.lt_of_lt_of_le hk hG.bel.size)).trans (hG.olds k hk)) (by decide)
theorem scanW_bd (d : DS) (base n : Int) : ∀ (k : Nat) (i last : Int) (f : Int → Option ByteArray), (∀ j, ((f j).getD ⟨#[]⟩).size ≤ 112) → ∀ j, (((scanW d base n k i last f).2 j).getD ⟨#[]⟩).size ≤ 112 := by
  intro k
  induction k with
  | zero => intro i last f h j; exact h j
  | succ k ih =>
    intro i last f h j
    unfold scanW
    cases hw : wholeF d (base + i.tmod n) i with
    | none => exact h j
    | some q =>
      simp only []
      split
      · exact h j
      · refine ih _ _ _ (fun j' => ?_) j
        split
        · unfold wholeF at hw
          split at hw
          · cases hw
          · split at hw
            · injection hw with hw; subst hw; exact body_le _
            · cases hw
        · exact h j'
theorem open_bd (d : DS) (base n low : Int) (i : Int) : (bdy (openW d base n low) i).size ≤ 112 := scanW_bd d base n n.toNat low 0 (fun _ => none) (fun _ => Nat.zero_le _) i
theorem newdiskG (L : Nat) (h1 : 1 ≤ L) (h2 : L ≤ 512) {w0 w : World} {c : Nat → Nat} (_ : Gr w0 w c) : Calls Try.prog 11 #[.int .i64 (L : Int)] w fun e w' => ∃ g, e = .returned (.tuple #[.pointer (some ⟨g, 0, none⟩), .int .i64 0]) ∧ DK w' (Col (Dk.paint c w.heap.size 1) 1) g (newD L) ∧ Fr [] w c w' (Dk.paint c w.heap.size 1) := newdisk L h1 h2 w c
theorem newdisk10 {w0 w : World} {c : Nat → Nat} (_ : Gr w0 w c) : Calls Try.prog 11 #[.int .i64 10] w fun e w' => ∃ g, e = .returned (.tuple #[.pointer (some ⟨g, 0, none⟩), .int .i64 0]) ∧ DK w' (Col (Dk.paint c w.heap.size 1) 1) g (newD 10) ∧ Fr [] w c w' (Dk.paint c w.heap.size 1) := newdisk 10 (by decide) (by decide) w c
def awR : Rc_ := ⟨5, 0, 0, 0, 0, 0, 0, ⟨#[]⟩, ⟨#[]⟩, [], []⟩
def awW0 : WS := newW 1 8
def awW1 : WS := (appendW awW0 awR).2.2
def awW2 : WS := (appendW awW1 awR).2.2
def awW3 : WS := (flushW awW2 (newD 10)).2.1
def awD3 : DS := (flushW awW2 (newD 10)).2.2
def awW4 : WS := (appendW awW3 awR).2.2
def awD5 : DS := crashD 0 (fun _ => 0) awD3
def awW6 : WS := openW awD5 1 8 1
theorem aw_a1 : (appendW awW0 awR).1 = 128 ∧ (appendW awW0 awR).2.1 = 0 := by decide +kernel
theorem aw_a2 : (appendW awW1 awR).1 = 129 ∧ (appendW awW1 awR).2.1 = 0 := by decide +kernel
theorem aw_f : (flushW awW2 (newD 10)).1 = 0 := by decide +kernel
theorem aw_a4 : (appendW awW3 awR).1 = 256 ∧ (appendW awW3 awR).2.1 = 0 := by decide +kernel
theorem aw_s6 : (scanF awW6 0).length = 2 := by decide +kernel
theorem aw_e6 : awW6.ep = 2 ∧ awW6.op = 2 ∧ awW6.low = 1 := by decide +kernel
theorem aw_sa : safeW awW4 129 = true ∧ safeW awW4 256 = false := by decide +kernel
theorem aw_la : latestF awD5 1 (8 : Int).toNat < 4294967290 ∧ liesE awD5 1 8 = 0 ∧ awD5.gone = false := by decide +kernel
theorem aw_l0 : liesE (newD 10) 1 8 = 0 := by decide +kernel
theorem aw_fit0 : Fit awW0 := ⟨by decide +kernel, by decide +kernel, by decide +kernel, by decide +kernel, by decide +kernel, by decide +kernel⟩
theorem aw_fit1 : Fit awW1 := ⟨by decide +kernel, by decide +kernel, by decide +kernel, by decide +kernel, by decide +kernel, by decide +kernel⟩
theorem aw_fit2 : Fit awW2 := ⟨by decide +kernel, by decide +kernel, by decide +kernel, by decide +kernel, by decide +kernel, by decide +kernel⟩
theorem aw_fit3 : Fit awW3 := ⟨by decide +kernel, by decide +kernel, by decide +kernel, by decide +kernel, by decide +kernel, by decide +kernel⟩
theorem aw_fit6 : Fit awW6 := ⟨by decide +kernel, by decide +kernel, by decide +kernel, by decide +kernel, by decide +kernel, by decide +kernel⟩
theorem aw_bd0 : (bdy awW0 awW0.op).size ≤ 1000 := by decide +kernel
theorem aw_bd1 : (bdy awW1 awW1.op).size ≤ 1000 := by decide +kernel
theorem aw_bd3 : (bdy awW3 awW3.op).size ≤ 1000 := by decide +kernel
theorem rows_ex {W : WS} {R : Int → List Rc_} (h : Rows W R) (r : Rc_) : ∃ R', Rows (appendW W r).2.2 R' := by
  cases hm : mayB r with
  | false => rw [append_not W hm]; exact ⟨R, h⟩
  | true =>
    rcases append_cases h hm with ⟨e, _⟩ | ⟨i, g, e⟩
    · rw [e]; exact ⟨R, h⟩
    · rw [e]; exact ⟨_, put_rows h hm g⟩
theorem aw_bd2 (i : Int) : (bdy awW2 i).size ≤ 112 := by
  obtain ⟨R1, h1⟩ := rows_ex (rows_new 1 8) awR
  obtain ⟨R2, h2⟩ := rows_ex h1 awR
  exact h2.le i
theorem aw_bd6 (i : Int) : (bdy awW6 i).size ≤ 112 := open_bd _ _ _ _ i
theorem aw_op2 : awW2.op ≤ 100000000 ∧ awW2.first ≤ awW2.op + 1 ∧ awW2.op - awW2.first ≤ 1000 := by decide +kernel
theorem aw_gap6 : awW6.low ≤ awW6.op + 1 ∧ awW6.op - awW6.low ≤ 1000 := by decide +kernel
theorem c_nil {α : Type} (d : Kd α) (w : World) (A : Option Addr) : Kd.C d w A 0 ([] : List α) := ⟨rfl, by decide, fun h => absurd h (Nat.lt_irrefl 0)⟩
theorem begin_calls (w : World) : Calls Try.prog 45 #[] w fun e w' => ∃ (A9 : Option Addr) (c9 : Nat) (A10 : Option Addr) (c10 : Nat), e = .returned (.agg #[.int .i64 5, .int .i64 0, .int .i64 0, .int .i64 0, .int .i64 0, .int .i64 0, .int .i64 0, .string ⟨#[]⟩, .string ⟨#[]⟩, .slice A9 0 c9, .slice A10 0 c10]) ∧ Below w.heap.size w w' := by
  refine (X4.careenlaw05_begin.calls 5 0 0 0 0 0 0 ⟨#[]⟩ ⟨#[]⟩ [] [] w rfl).mono ?_
  rintro e w' ⟨v9, v10, rfl, h9, h10, hb⟩
  obtain ⟨A9, c9, rfl, _, _⟩ := Kd.R_reads h9
  obtain ⟨A10, c10, rfl, _, _⟩ := Kd.R_reads h10
  exact ⟨A9, c9, A10, c10, rfl, hb⟩
theorem append_aw {w : World} {c : Nat → Nat} {gl m g : Nat} {W : WS} (h : LO w c gl m g W) (F : Fit W) (hbd : (bdy W W.op).size ≤ 1000) (A9 : Option Addr) (c9 : Nat) (A10 : Option Addr) (c10 : Nat) : Calls Try.prog 15 #[.pointer (some ⟨gl, 0, none⟩), .agg #[.int .i64 5, .int .i64 0, .int .i64 0, .int .i64 0, .int .i64 0, .int .i64 0, .int .i64 0, .string ⟨#[]⟩, .string ⟨#[]⟩, .slice A9 0 c9, .slice A10 0 c10]] w fun e w' => e = .returned (.tuple #[.int .i64 (appendW W awR).1, .int .i64 (appendW W awR).2.1]) ∧ Fr [3] w c w' c ∧ LO w' c gl m g (appendW W awR).2.2 :=
  append_calls h F hbd awR A9 c9 A10 c10 (c_nil _ _ _) (Nat.zero_le _) (c_nil _ _ _) (Nat.zero_le _) (by decide)
end Go.Proofs.Ytbnglmeljbiglaa.Wl
set_option maxRecDepth 8192
namespace Go.Proofs.Ytbnglmeljbiglaa.Wl
open Go.Proofs.Ytbnglmeljbiglaa.X4 Go.Proofs.Ytbnglmeljbiglaa.Pt Go.Proofs.Ytbnglmeljbiglaa.Ptb Go.Proofs.Ytbnglmeljbiglaa.Rp Go Go.RowKit Go.ChangeMaps Go.Proofs.Ytbnglmeljbiglaa.Arr Go.Proofs.Ytbnglmeljbiglaa.Mp Go.Proofs.Ytbnglmeljbiglaa.Ow Go.Proofs.Ytbnglmeljbiglaa.Dk Go.Proofs.Ytbnglmeljbiglaa.Fr Go.Proofs.YtbnglmeljbiglaaW.PrintWords Go.Proofs.YtbnglmeljbiglaaW.PrintLast Go.Proofs.YtbnglmeljbiglaaW.PrintMore
set_option linter.unusedVariables false
set_option linter.unusedSimpArgs false
set_option maxHeartbeats 16000000 in
set_option maxRecDepth 20000 in
theorem awake_calls (w : World) : Calls Try.prog 13 #[] w fun e w' => e = .returned (.bool true) ∧ Below w.heap.size w w' := by
  have G := Aside0.mk (Gr.refl w)
  go_enter Try.func13, Try.ntmps13
  go_upto_region 2 with (go_at_call 11; (with_reducible refine (newdisk10 G.out).mono ?_); rintro e w1 ⟨g, rfl, hk, hf⟩; have G_n := Aside0.mk (G.out.step hf (by decide)); clear G; have G := G_n; clear G_n; have HD := Aside0.mk hk; clear hk hf)
  have HO := Aside0.mk (ok_new 10 (by decide))
  go_upto_region 3 with (go_at_call 12; (with_reducible refine (lnew_calls HD.out HO.out 1 8 (by decide) (by decide) aw_l0).mono ?_); rintro e w1 ⟨gl, m, c1, rfl, hf, hl, hd⟩; have G_n := Aside0.mk (G.out.step hf (by decide)); clear G; have G := G_n; clear G_n; clear HD; have HD := Aside0.mk hd; have HL := Aside0.mk (show LO w1 c1 gl m g awW0 from hl); clear hl hd hf)
  go_upto_region 4 with (first | (go_at_call 45; (with_reducible refine (begin_calls _).mono ?_); rintro e w1 ⟨A9, c9, A10, c10, rfl, hb1⟩; have G_n := Aside0.mk (G.out.below hb1); have HD_n := Aside0.mk (HD.out.below hb1); have HL_n := Aside0.mk (HL.out.below hb1); clear G HD HL; have G := G_n; have HD := HD_n; have HL := HL_n; clear G_n HD_n HL_n; clear hb1) | (go_at_call 15; (with_reducible refine (append_aw HL.out aw_fit0 aw_bd0 _ _ _ _).mono ?_); rintro e w1 ⟨rfl, hf, hl⟩; rw [aw_a1.1, aw_a1.2]; have G_n := Aside0.mk (G.out.step hf (by decide)); have HD_n := Aside0.mk (dk_keep HD.out hf (by decide)); clear G HD; have G := G_n; have HD := HD_n; clear G_n HD_n; clear HL; have HL := Aside0.mk (show LO w1 _ gl m g awW1 from hl); clear hl hf))
  go_upto_region 5 with (first | (go_at_call 45; (with_reducible refine (begin_calls _).mono ?_); rintro e w1 ⟨A9, c9, A10, c10, rfl, hb1⟩; have G_n := Aside0.mk (G.out.below hb1); have HD_n := Aside0.mk (HD.out.below hb1); have HL_n := Aside0.mk (HL.out.below hb1); clear G HD HL; have G := G_n; have HD := HD_n; have HL := HL_n; clear G_n HD_n HL_n; clear hb1) | (go_at_call 15; (with_reducible refine (append_aw HL.out aw_fit1 aw_bd1 _ _ _ _).mono ?_); rintro e w1 ⟨rfl, hf, hl⟩; rw [aw_a2.1, aw_a2.2]; have G_n := Aside0.mk (G.out.step hf (by decide)); have HD_n := Aside0.mk (dk_keep HD.out hf (by decide)); clear G HD; have G := G_n; have HD := HD_n; clear G_n HD_n; clear HL; have HL := Aside0.mk (show LO w1 _ gl m g awW2 from hl); clear hl hf))
  go_upto_region 6 with (go_at_call 16; (with_reducible refine (flush_calls HL.out HD.out HO.out (by decide) aw_fit2 aw_bd2 aw_op2.1 aw_op2.2).mono ?_); rintro e w1 ⟨rfl, c1, hf, hl, hd, ho⟩; rw [aw_f]; have G_n := Aside0.mk (G.out.step hf (by decide)); clear G; have G := G_n; clear G_n; clear HD HL HO; have HD := Aside0.mk (show DK w1 (Col c1 1) g awD3 from hd); have HL := Aside0.mk (show LO w1 c1 gl m g awW3 from hl); have HO := Aside0.mk (show OkN 1100 awD3 from ho); clear hl hd hf ho)
  go_upto_region 7 with (first | (go_at_call 45; (with_reducible refine (begin_calls _).mono ?_); rintro e w1 ⟨A9, c9, A10, c10, rfl, hb1⟩; have G_n := Aside0.mk (G.out.below hb1); have HD_n := Aside0.mk (HD.out.below hb1); have HL_n := Aside0.mk (HL.out.below hb1); clear G HD HL; have G := G_n; have HD := HD_n; have HL := HL_n; clear G_n HD_n HL_n; clear hb1) | (go_at_call 15; (with_reducible refine (append_aw HL.out aw_fit3 aw_bd3 _ _ _ _).mono ?_); rintro e w1 ⟨rfl, hf, hl⟩; rw [aw_a4.1, aw_a4.2]; have G_n := Aside0.mk (G.out.step hf (by decide)); have HD_n := Aside0.mk (dk_keep HD.out hf (by decide)); clear G HD; have G := G_n; have HD := HD_n; clear G_n HD_n; clear HL; have HL := Aside0.mk (show LO w1 _ gl m g awW4 from hl); clear hl hf))
  go_upto_region 8 with (go_at_call 18; (with_reducible refine (crash_o HD.out HO.out.ok (p := fun _ => 0) (fun c' _ => pk_nil _ _ _ _) (fun _ => by decide)).mono ?_); rintro e w1 ⟨rfl, c1, hf, hd⟩; have G_n := Aside0.mk (G.out.step hf (by decide)); have HL_n := Aside0.mk (HL.out.keep hf (by decide)); clear G HL; have G := G_n; have HL := HL_n; clear G_n HL_n; clear HD; have HD := Aside0.mk (show DK w1 (Col c1 1) g awD5 from hd); clear hd hf)
  have HO5 := Aside0.mk (show OkN 0 awD5 from ok_crash HO.out)
  go_upto_region 9 with (go_at_call 19; (with_reducible refine (lopen_calls HD.out HO5.out 1 8 1 (by decide) (by decide) aw_la.2.1 (by decide) aw_la.2.2 aw_la.1).mono ?_); rintro e w1 ⟨gl6, m6, c1, rfl, hf, hl, hd⟩; have G_n := Aside0.mk (G.out.step hf (by decide)); have HL_n := Aside0.mk (HL.out.keep hf (by decide)); clear G HL; have G := G_n; have HL := HL_n; clear G_n HL_n; clear HD; have HD := Aside0.mk hd; have HL6 := Aside0.mk (show LO w1 c1 gl6 m6 g awW6 from hl); clear hl hd hf)
  go_wp2_with (first | (go_at_call 20; (with_reducible refine (scan_calls HL6.out aw_fit6 aw_bd6 aw_gap6 0).mono ?_); rintro e w1 ⟨v, rfl, hn, hb1⟩; obtain ⟨A_, c_, rfl⟩ := Kd.N_slice hn; rw [aw_s6]; have G_n := Aside0.mk (G.out.below hb1); have HD_n := Aside0.mk (HD.out.below hb1); have HL_n := Aside0.mk (HL.out.below hb1); have HL6_n := Aside0.mk (HL6.out.below hb1); clear G HD HL HL6; have G := G_n; have HD := HD_n; have HL := HL_n; have HL6 := HL6_n; clear G_n HD_n HL_n HL6_n; clear hb1 hn) | (go_at_call 29; (with_reducible refine (epoch_calls HL6.out aw_fit6.ep).mono ?_); rintro e w1 ⟨rfl, hb1⟩; rw [aw_e6.1]; have G_n := Aside0.mk (G.out.below hb1); have HD_n := Aside0.mk (HD.out.below hb1); have HL_n := Aside0.mk (HL.out.below hb1); have HL6_n := Aside0.mk (HL6.out.below hb1); clear G HD HL HL6; have G := G_n; have HD := HD_n; have HL := HL_n; have HL6 := HL6_n; clear G_n HD_n HL_n HL6_n; clear hb1) | (go_at_call 30; (with_reducible refine (next_calls HL6.out).mono ?_); rintro e w1 ⟨rfl, hb1⟩; rw [aw_e6.2.1]; have G_n := Aside0.mk (G.out.below hb1); have HD_n := Aside0.mk (HD.out.below hb1); have HL_n := Aside0.mk (HL.out.below hb1); have HL6_n := Aside0.mk (HL6.out.below hb1); clear G HD HL HL6; have G := G_n; have HD := HD_n; have HL := HL_n; have HL6 := HL6_n; clear G_n HD_n HL_n HL6_n; clear hb1) | (go_at_call 24; (with_reducible refine (safe_calls HL.out 129 (by decide)).mono ?_); rintro e w1 ⟨rfl, hb1⟩; rw [aw_sa.1]; have G_n := Aside0.mk (G.out.below hb1); have HD_n := Aside0.mk (HD.out.below hb1); have HL_n := Aside0.mk (HL.out.below hb1); have HL6_n := Aside0.mk (HL6.out.below hb1); clear G HD HL HL6; have G := G_n; have HD := HD_n; have HL := HL_n; have HL6 := HL6_n; clear G_n HD_n HL_n HL6_n; clear hb1) | (go_at_call 24; (with_reducible refine (safe_calls HL.out 256 (by decide)).mono ?_); rintro e w1 ⟨rfl, hb1⟩; rw [aw_sa.2]; have G_n := Aside0.mk (G.out.below hb1); have HD_n := Aside0.mk (HD.out.below hb1); have HL_n := Aside0.mk (HL.out.below hb1); have HL6_n := Aside0.mk (HL6.out.below hb1); clear G HD HL HL6; have G := G_n; have HD := HD_n; have HL := HL_n; have HL6 := HL6_n; clear G_n HD_n HL_n HL6_n; clear hb1))
  go_ret
  exact ⟨rfl, G.out.bel⟩
end Go.Proofs.Ytbnglmeljbiglaa.Wl
set_option maxRecDepth 8192
namespace Go.Proofs.Ytbnglmeljbiglaa.Wl
open Go.Proofs.Ytbnglmeljbiglaa.X4 Go.Proofs.Ytbnglmeljbiglaa.Pt Go.Proofs.Ytbnglmeljbiglaa.Ptb Go.Proofs.Ytbnglmeljbiglaa.Rp Go.Proofs.Ytbnglmeljbiglaa.Cr Go Go.RowKit Go.ChangeMaps Go.Proofs.Ytbnglmeljbiglaa.Arr Go.Proofs.Ytbnglmeljbiglaa.Mp Go.Proofs.Ytbnglmeljbiglaa.Ow Go.Proofs.Ytbnglmeljbiglaa.Dk Go.Proofs.Ytbnglmeljbiglaa.Fr Go.Proofs.YtbnglmeljbiglaaW.PrintWords
set_option linter.unusedVariables false
set_option linter.unusedSimpArgs false
structure Qs (n E : Int) (W : WS) (R : Int → List Rc_) (d : DS) (e : Int → Int) : Prop where
  keep : Keep W R d.safe e
  mid : Mid d.safe [] d
  fuse : d.fuse = -1
  ep : W.ep ≤ E
  nn : W.n = n
  base : W.base = 0
  len : d.safe.length ≤ 512
section
variable {n E : Int} {W : WS} {R : Int → List Rc_} {d : DS} {e : Int → Int}
theorem Qs.ok (h : Qs n E W R d e) : OkN 0 d := by
  have hr : d.row = [] := h.mid.2.1
  refine ⟨⟨by rw [hr]; decide, by rw [h.fuse]; omega, by rw [h.fuse]; omega, h.len, fun p hp => ?_⟩, by rw [hr]; exact Nat.le_refl _⟩
  rw [hr] at hp; cases hp
theorem Qs.gone (h : Qs n E W R d e) : d.gone = false := h.mid.2.2
theorem Qs.bd (h : Qs n E W R d e) (i : Int) : (bdy W i).size ≤ 112 := h.keep.rows.le i
theorem Qs.ord (h : Qs n E W R d e) : (W.low = 1 ∧ 1 ≤ W.first ∧ W.first ≤ W.op ∧ W.op ≤ W.n + 1) ∧ (8 ≤ W.n ∧ W.n ≤ 64) ∧ 1 ≤ W.ep := by
  have h1 := h.keep.rows.ord
  have h2 := h.keep.op_le
  have h3 := h.keep.nx
  have h4 := h.keep.low
  have h5 := h.keep.n
  exact ⟨⟨h4, by omega, by omega, by omega⟩, h5, h.keep.ep⟩
theorem Qs.fit (h : Qs n E W R d e) (hE : E < 4294967290) : Fit W := by
  obtain ⟨h1, h2, h3⟩ := h.ord
  have hb := h.base
  have he := h.ep
  exact ⟨by omega, by omega, by omega, by omega, by omega, by omega⟩
theorem Qs.gap (h : Qs n E W R d e) : W.op ≤ 100000000 ∧ W.first ≤ W.op + 1 ∧ W.op - W.first ≤ 1000 := by
  obtain ⟨h1, h2, h3⟩ := h.ord
  omega
theorem Qs.sgap (h : Qs n E W R d e) : W.low ≤ W.op + 1 ∧ W.op - W.low ≤ 1000 := by
  obtain ⟨h1, h2, h3⟩ := h.ord
  omega
theorem Qs.bd1 (h : Qs n E W R d e) : (bdy W W.op).size ≤ 1000 := Nat.le_trans (h.bd _) (by decide)
theorem Qs.more (h : Qs n E W R d e) {E' : Int} (hE : E ≤ E') : Qs n E' W R d e := ⟨h.keep, h.mid, h.fuse, Int.le_trans h.ep hE, h.nn, h.base, h.len⟩
theorem qs_new {n : Int} {L : Nat} (hn : 8 ≤ n ∧ n ≤ 64) (hb : n ≤ L) (hL : L ≤ 512) : Qs n 1 (newW 0 n) (fun _ => []) (newD L) (fun _ => 0) :=
  ⟨keep_new hn ⟨Int.le_refl _, by omega⟩, ⟨rfl, rfl, rfl⟩, rfl, Int.le_refl _, rfl, rfl, by simp [newD]; exact hL⟩
theorem Qs.flush (h : Qs n E W R d e) (hE : E < 4294967290) : (flushW W d).1 = 0 ∧ (flushW W d).2.1 = doneW W ∧ Qs n E (doneW W) R (flushW W d).2.2 (eN W e) ∧ (flushW W d).2.2.row = [] := by
  have he := h.ep
  rcases flush_keep h.keep (by omega) h.mid with ⟨f1, f2, f3, f4⟩ | ⟨_, _, _, f4⟩
  · have hs : (flushW W d).2.2.safe = newS W d.safe := f3.1
    refine ⟨f1, f2, ⟨?_, ?_, f4 h.fuse, h.ep, h.nn, h.base, ?_⟩, f3.2.1⟩
    · rw [hs]; exact keep_done h.keep
    · rw [hs]; exact f3
    · rw [hs]; unfold newS; rw [over_len]; exact h.len
  · exact absurd h.fuse f4
theorem Qs.put (h : Qs n E W R d e) {r : Rc_} (hm : mayB r = true) {i : Int} (g : Goes W R r i) : Qs n E (putW W R r i) (putR R i r) d e :=
  ⟨keep_put h.keep hm g, h.mid, h.fuse, h.ep, h.nn, h.base, h.len⟩
theorem Qs.append (h : Qs n E W R d e) (r : Rc_) : ∃ R', Qs n E (appendW W r).2.2 R' d e := by
  cases hm : mayB r with
  | false => rw [append_not W hm]; exact ⟨R, h⟩
  | true =>
    rcases append_cases h.keep.rows hm with ⟨a, _⟩ | ⟨i, g, a⟩
    · rw [a]; exact ⟨R, h⟩
    · rw [a]; exact ⟨_, h.put hm g⟩
theorem Qs.latest (h : Qs n E W R d e) (hE : E < 4294967290) : latestF d 0 n.toNat ≤ E := by
  have he := h.ep
  have h1 := h.keep.ep
  have h2 := h.keep.n
  have := latest_keep W (by omega) h.mid h.keep.base (E := E) (by omega) (fun i i1 i2 hv => Int.le_trans (h.keep.all_le (by omega) i1 i2 hv) h.ep)
  rw [h.base, h.nn] at this
  exact this
theorem Qs.lies (h : Qs n E W R d e) : liesE d 0 n = 0 := by
  have h1 := h.keep.base
  have h2 := h.keep.n
  have h3 := h.nn
  have h4 := h.base
  unfold liesE
  rw [if_neg (by omega)]
/-- What is opened has its sectors in a row. -/
theorem scan_range (d : DS) (base n : Int) : ∀ (k : Nat) (i last : Int) (f : Int → Option ByteArray), i ≤ (scanW d base n k i last f).1 ∧ (scanW d base n k i last f).1 ≤ i + k := by
  intro k
  induction k with
  | zero => intro i last f; unfold scanW; exact ⟨Int.le_refl _, by show i ≤ i + ((0 : Nat) : Int); omega⟩
  | succ k ih =>
    intro i last f
    unfold scanW
    cases hw : wholeF d (base + i.tmod n) i with
    | none => exact ⟨Int.le_refl _, by show i ≤ i + ((k + 1 : Nat) : Int); omega⟩
    | some q =>
      simp only []
      split
      · exact ⟨Int.le_refl _, by show i ≤ i + ((k + 1 : Nat) : Int); omega⟩
      · have := ih (i + 1) q.1 (fun j => if j = i then some q.2 else f j)
        omega
theorem open_fit (d : DS) {base n low : Int} (hb : 0 ≤ base ∧ base ≤ 1000) (hn : 1 ≤ n ∧ n ≤ 64) (hl : 1 ≤ low ∧ low ≤ 16777216) (hla : latestF d base n.toNat < 4294967290) : Fit (openW d base n low) ∧ ((openW d base n low).low ≤ (openW d base n low).op + 1 ∧ (openW d base n low).op - (openW d base n low).low ≤ 1000) := by
  have hr := scan_range d base n n.toNat low 0 (fun _ => none)
  have h0 := latest_nn d base n.toNat
  have e1 : (openW d base n low).first = (scanW d base n n.toNat low 0 (fun _ => none)).1 := rfl
  have e2 : (openW d base n low).op = (scanW d base n n.toNat low 0 (fun _ => none)).1 := rfl
  have e3 : (openW d base n low).low = low := rfl
  have e4 : (openW d base n low).ep = latestF d base n.toNat + 1 := rfl
  have e5 : (openW d base n low).base = base := rfl
  have e6 : (openW d base n low).n = n := rfl
  exact ⟨⟨by rw [e5]; exact hb, by rw [e6]; exact hn, by rw [e3]; omega, by rw [e1]; omega, by rw [e2]; omega, by rw [e4]; omega⟩, by rw [e3, e2]; omega, by rw [e3, e2]; omega⟩
end
theorem allS_ok (s : ByteArray) : ∀ x ∈ allS s, okE x := by
  intro x hx
  unfold allS at hx
  cases h : allF s with
  | none => rw [h] at hx; cases hx
  | some l => rw [h] at hx; exact allL_ok _ 0 l h x hx
theorem scan_ok (W : WS) (from_ : Int) : ∀ x ∈ scanF W from_, okE x := by
  intro x hx
  unfold scanF scanK at hx
  obtain ⟨q, _, hx⟩ := List.mem_flatMap.1 hx
  obtain ⟨y, hy, rfl⟩ := List.mem_map.1 (List.mem_filter.1 hx).1
  exact allS_ok _ y hy
theorem scan_len (W : WS) (hbd : ∀ i, (bdy W i).size ≤ 112) (hg : W.op - W.low ≤ 1000) (from_ : Int) : (scanF W from_).length ≤ 1000000 := by
  have := scanK_le W hbd from_ (W.op + 1 - W.low).toNat
  show (scanK W from_ _).length ≤ _
  omega
end Go.Proofs.Ytbnglmeljbiglaa.Wl
set_option maxRecDepth 8192
namespace Go.Proofs.Ytbnglmeljbiglaa.Wl
open Go.Proofs.Ytbnglmeljbiglaa.X4 Go.Proofs.Ytbnglmeljbiglaa.Pt Go.Proofs.Ytbnglmeljbiglaa.Ptb Go.Proofs.Ytbnglmeljbiglaa.Rp Go.Proofs.Ytbnglmeljbiglaa.Cr Go Go.RowKit Go.ChangeMaps Go.Proofs.Ytbnglmeljbiglaa.Arr Go.Proofs.Ytbnglmeljbiglaa.Mp Go.Proofs.Ytbnglmeljbiglaa.Ow Go.Proofs.Ytbnglmeljbiglaa.Dk Go.Proofs.Ytbnglmeljbiglaa.Fr Go.Proofs.YtbnglmeljbiglaaW.PrintWords
set_option linter.unusedVariables false
set_option linter.unusedSimpArgs false
/-- The place behind the last record. -/
def endW (W : WS) : Int := W.op * 128 + ((bdy W W.op).size : Int)
/-- The records that are safe. -/
def safeL (W : WS) (R : Int → List Rc_) : List En_ := allK R 1 (W.first - 1).toNat
structure App (W : WS) (R : Int → List Rc_) (r : Rc_) (p er : Int) (W' : WS) (R' : Int → List Rc_) : Prop where
  first : W'.first = W.first
  nx : nxW W ≤ nxW W'
  may : er = 0 → mayB r = true
  find : er = 0 → findW W' p = some ⟨p, r⟩
  all : er = 0 → allR W' R' = allR W R ++ [⟨p, r⟩]
  sec : er = 0 → W.first ≤ sctr p ∧ sctr p < nxW W'
  ends : er = 0 → endW W ≤ p ∧ p < endW W'
  no : er ≠ 0 → W' = W ∧ R' = R
  old : W.low = 1 → safeL W' R' = safeL W R
  room : mayB r = true → (er = 0 ∨ er = 5) ∧ (er = 5 → roomW W ≤ 0) ∧ roomW W - 1 ≤ roomW W'
section
variable {n E : Int} {W : WS} {R : Int → List Rc_} {d : DS} {e : Int → Int}
theorem app_keep (h : Rows W R) (r : Rc_) : ∃ p er W' R', (appendW W r).1 = p ∧ (appendW W r).2.1 = er ∧ (appendW W r).2.2 = W' ∧ App W R r p er W' R' ∧ ((W' = W ∧ R' = R) ∨ (mayB r = true ∧ ∃ i, Goes W R r i ∧ W' = putW W R r i ∧ R' = putR R i r)) := by
  cases hm : mayB r with
  | false =>
    have ea := append_not W hm
    refine ⟨0, 1, W, R, by rw [ea], by rw [ea], by rw [ea], ⟨rfl, Int.le_refl _, fun x => by omega, fun x => by omega, fun x => by omega, fun x => by omega, fun x => by omega, fun _ => ⟨rfl, rfl⟩, fun _ => rfl, fun x => ?_⟩, .inl ⟨rfl, rfl⟩⟩
    rw [hm] at x; cases x
  | true =>
    rcases append_cases h hm with ⟨ea, hr⟩ | ⟨i, g, ea⟩
    · refine ⟨0, 5, W, R, by rw [ea], by rw [ea], by rw [ea], ⟨rfl, Int.le_refl _, fun x => by omega, fun x => by omega, fun x => by omega, fun x => by omega, fun x => by omega, fun _ => ⟨rfl, rfl⟩, fun _ => rfl, fun _ => ⟨.inr rfl, fun _ => ?_, by omega⟩⟩, .inl ⟨rfl, rfl⟩⟩
      rw [room_nx]; omega
    · have hnx := put_nx h hm g
      have ho := h.ord
      have hl := h.len i
      have hz : sctr (i * 128 + ((bytesW (R i)).length : Int)) = i := sctr_at (by omega) (by omega)
      have hput := put_rows h hm g
      have p1 := (prB_one hm).1
      refine ⟨i * 128 + ((bytesW (R i)).length : Int), 0, putW W R r i, putR R i r, by rw [ea], by rw [ea], by rw [ea], ⟨rfl, by omega, fun _ => hm, fun _ => put_find h hm g, fun _ => put_all h hm g, fun _ => by rw [hz]; omega, fun _ => ⟨?_, ?_⟩, fun x => absurd rfl x, fun hl1 => allK_put R 1 i r _ (by have := g.ge; have : (putW W R r i).first = W.first := rfl; omega), fun _ => ⟨.inl rfl, fun x => by omega, ?_⟩⟩, .inr ⟨rfl, i, g, rfl, rfl⟩⟩
      · unfold endW
        rw [h.size]
        rcases g.sec with x | ⟨x, _⟩
        · rw [x]; exact Int.le_refl _
        · have := h.len W.op
          omega
      · have e1 : endW (putW W R r i) = i * 128 + (((bytesW (putR R i r i)).length : Nat) : Int) := by
          unfold endW
          rw [hput.size]
          rfl
        rw [e1, putR_at, bytes_append, List.length_append, bytesW, bytesW, List.append_nil]
        push_cast
        omega
      · rw [room_nx, room_nx, hnx.1]
        show W.low + W.n - nxW W - 1 ≤ W.low + W.n - (i + 1)
        omega
theorem Qs.app (h : Qs n E W R d e) (r : Rc_) : ∃ p er W' R', (appendW W r).1 = p ∧ (appendW W r).2.1 = er ∧ (appendW W r).2.2 = W' ∧ App W R r p er W' R' ∧ Qs n E W' R' d e := by
  obtain ⟨p, er, W', R', e1, e2, e3, ha, hc⟩ := app_keep h.keep.rows r
  refine ⟨p, er, W', R', e1, e2, e3, ha, ?_⟩
  rcases hc with ⟨rfl, rfl⟩ | ⟨hm, i, g, rfl, rfl⟩
  · exact h
  · exact h.put hm g
theorem Qs.room (h : Qs n E W R d e) : 0 ≤ roomW W ∧ roomW W ≤ 65 := by
  obtain ⟨h1, h2, h3⟩ := h.ord
  have h4 := h.keep.nx
  have h5 := h.keep.op_le
  rw [room_nx]
  omega
theorem Qs.done (h : Qs n E W R d e) : roomW (doneW W) = roomW W ∧ nxW (doneW W) = nxW W ∧ allR (doneW W) R = allR W R ∧ endW W ≤ endW (doneW W) ∧ W.first ≤ nxW W := by
  have hd := done_rows h.keep.rows
  obtain ⟨h1, h2, h3⟩ := h.ord
  have h5 := h.keep.op_le
  refine ⟨?_, hd.2, ?_, ?_, by omega⟩
  · rw [room_nx, room_nx, hd.2]; rfl
  · rw [allR_nx hd.1 h1.1, allR_nx h.keep.rows h1.1, hd.2]
  · unfold endW
    have hb := h.bd W.op
    show W.op * 128 + ((bdy W W.op).size : Int) ≤ nxW W * 128 + ((bdy W (nxW W)).size : Int)
    by_cases z : bdy W W.op = ⟨#[]⟩
    · rw [show nxW W = W.op from if_pos z]; exact Int.le_refl _
    · rw [show nxW W = W.op + 1 from if_neg z]; omega
theorem Qs.done_safe (h : Qs n E W R d e) : safeL (doneW W) R = allR W R := by
  obtain ⟨h1, h2, h3⟩ := h.ord
  rw [allR_nx h.keep.rows h1.1]
  rfl
/-- The power goes amid a Flush, or not; a crash; the log is opened. -/
theorem Qs.crash (h : Qs n E W R d e) (hE : E < 4294967280) (f : Int) (m : Nat) (p : Nat → Nat) : ∃ (er : Int) (T : List ByteArray) (R2 : Int → List Rc_) (e2 : Int → Int), (flushW W { d with fuse := f }).1 = er ∧ (er = 0 ∨ er = 4) ∧ crashD m p (flushW W { d with fuse := f }).2.2 = ⟨T, [], false, -1⟩ ∧
    Qs n (E + 1) (openW ⟨T, [], false, -1⟩ 0 n 1) R2 ⟨T, [], false, -1⟩ e2 ∧ (∃ t, allR W R = allR (openW ⟨T, [], false, -1⟩ 0 n 1) R2 ++ t) ∧ (er = 0 → allR (openW ⟨T, [], false, -1⟩ 0 n 1) R2 = allR W R) ∧ (safeL W R).length ≤ (allR (openW ⟨T, [], false, -1⟩ 0 n 1) R2).length ∧
    safeL (openW ⟨T, [], false, -1⟩ 0 n 1) R2 = allR (openW ⟨T, [], false, -1⟩ 0 n 1) R2 ∧ latestF ⟨T, [], false, -1⟩ 0 n.toNat < 4294967290 ∧ liesE ⟨T, [], false, -1⟩ 0 n = 0 := by
  obtain ⟨h1, h2, h3⟩ := h.ord
  have he := h.ep
  have h5 := h.keep.op_le
  have hm : Mid d.safe [] { d with fuse := f } := ⟨rfl, h.mid.2.1, h.mid.2.2⟩
  obtain ⟨k, T, e', k1, k2, k3, k4, k5, k6, k7, k8, k9, k10, k11, k12⟩ := crash_keep h.keep (by omega) hm m p
  have hrow := allR_open h.keep k1 k5 k8
  rw [h.base, h.nn] at k5 k6 k7 k8 k9 k11 k12 hrow
  rw [h.base, h.nn] at k10
  have q2 : Qs n (E + 1) (openW ⟨T, [], false, -1⟩ 0 n 1) (cutR R k) ⟨T, [], false, -1⟩ e' := ⟨k5, ⟨rfl, rfl, rfl⟩, rfl, by omega, k11, k12, by show T.length ≤ 512; rw [k4]; exact h.len⟩
  have hall := allR_nx h.keep.rows h1.1
  refine ⟨_, T, cutR R k, e', rfl, ?_, k3, q2, ?_, fun x => ?_, ?_, ?_, by omega, q2.lies⟩
  · rcases flush_keep h.keep (by omega) hm with ⟨f1, _⟩ | ⟨f1, _⟩
    · exact .inl f1
    · exact .inr f1
  · rw [hrow, hall]
    exact allK_pre R 1 (k - 1).toNat (nxW W - 1).toNat (by omega)
  · rw [hrow, hall, k2 x]
  · rw [hrow]
    obtain ⟨t, ht⟩ := allK_pre R 1 (W.first - 1).toNat (k - 1).toNat (by omega)
    unfold safeL
    rw [ht, List.length_append]
    exact Nat.le_add_right _ _
  · rw [hrow]
    unfold safeL
    rw [k6, allK_cut R k _ (by omega)]
end
end Go.Proofs.Ytbnglmeljbiglaa.Wl
set_option maxRecDepth 8192
namespace Go.Proofs.Ytbnglmeljbiglaa.X4
open Go.Proofs.Ytbnglmeljbiglaa.Rgn
open Go.Proofs.Ytbnglmeljbiglaa.Pt Go.Proofs.Ytbnglmeljbiglaa.Ptb Go.Proofs.Ytbnglmeljbiglaa.Rp Go.Proofs.Ytbnglmeljbiglaa.Wl Go Go.RowKit Go.ChangeMaps Go.Proofs.Ytbnglmeljbiglaa.Arr Go.Proofs.Ytbnglmeljbiglaa.Mp Go.Proofs.Ytbnglmeljbiglaa.Ow Go.Proofs.Ytbnglmeljbiglaa.Dk Go.Proofs.Ytbnglmeljbiglaa.Fr Go.Proofs.YtbnglmeljbiglaaW.PrintWords Go.Proofs.YtbnglmeljbiglaaW.PrintLast Go.Proofs.YtbnglmeljbiglaaW.PrintMore
set_option linter.unusedVariables false
set_option linter.unusedSimpArgs false
theorem same_len (r : S37) (h1 : r.f9.length ≤ 1000000) (h2 : r.f10.length ≤ 1000000) (A9 : Option Addr) (c9 : Nat) (A10 : Option Addr) (c10 : Nat) (B9 : Option Addr) (d9 : Nat) (B10 : Option Addr) (d10 : Nat) (w : World) (h9 : Kd.C k107 w A9 r.f9.length r.f9) (l9 : r.f9.length ≤ c9) (h10 : Kd.C k109 w A10 r.f10.length r.f10) (l10 : r.f10.length ≤ c10) (g9 : Kd.C k107 w B9 r.f9.length r.f9) (m9 : r.f9.length ≤ d9) (g10 : Kd.C k109 w B10 r.f10.length r.f10) (m10 : r.f10.length ≤ d10) :
    Calls Try.prog 28 #[.agg #[.int .i64 r.f0, .int .i64 r.f1, .int .i64 r.f2, .int .i64 r.f3, .int .i64 r.f4, .int .i64 r.f5, .int .i64 r.f6, .string r.f7, .string r.f8, .slice A9 r.f9.length c9, .slice A10 r.f10.length c10], .agg #[.int .i64 r.f0, .int .i64 r.f1, .int .i64 r.f2, .int .i64 r.f3, .int .i64 r.f4, .int .i64 r.f5, .int .i64 r.f6, .string r.f7, .string r.f8, .slice B9 r.f9.length d9, .slice B10 r.f10.length d10]] w fun e w' => e = .returned (.bool true) ∧ Below w.heap.size w w' := by
  refine careenref04_Same.calls _ _ _ _ _ _ _ _ _ A9 c9 _ A10 c10 _ _ _ _ _ _ _ _ _ _ B9 d9 _ B10 d10 _ true w h9 l9 h10 l10 g9 m9 g10 m10 ?_
  rw [Pt.rsame_f h1 h2, decide_eq_true rfl]
theorem rde_mem {l : List S44} {k : Nat} (h : k < l.length) : rd_T44 l k ∈ l := by
  unfold rd_T44
  rw [Int.toNat_natCast, List.getD_eq_getElem?_getD, List.getElem?_eq_getElem h]
  exact List.getElem_mem h
set_option maxHeartbeats 16000000 in
theorem sameall_big (l : List S44) (A0 : Option Addr) (c0 : Nat) (A1 : Option Addr) (c1 : Nat) (w : World) (h0 : Kd.C k44 w A0 l.length l) (h1 : Kd.C k44 w A1 l.length l) (hok : ∀ x ∈ l, okE x) (hm : l.length ≤ 1000000000) :
    Calls Try.prog 21 #[.slice A0 l.length c0, .slice A1 l.length c1] w fun e w' => e = .returned (.bool true) ∧ Below w.heap.size w w' := by
  have H0 := Aside0.mk h0; have H1 := Aside0.mk h1; have HOK := Aside0.mk hok; have HM := Aside0.mk hm
  clear h0 h1 hok hm
  have HB := Aside0.mk (Below.refl w.heap.size w)
  have hne : ((l.length : Int) != (l.length : Int)) = false := by simp
  go_enter Try.func21, Try.ntmps21
  go_upto_region 4 with (fail)
  clear hne
  go_loopw [5] (fun v wr => ∃ r : Nat, v = .int .i64 r ∧ Aside0 (r ≤ l.length) ∧ Aside0 (Below w.heap.size w wr)) (fun v _ => l.length - (intOf v).toNat)
  case atStart => exact ⟨0, rfl, ⟨Nat.zero_le _⟩, HB⟩
  case round =>
    clear HB
    obtain ⟨r, rfl, HR, HB⟩ := hrel
    by_cases hlt : r < l.length
    · have hlt1 : (r : Int) < (l.length : Int) := by omega
      have hr0 : (0 : Int) ≤ (r : Int) := by omega
      have hwk : wrap64 ((r : Int) + 1) = ((r + 1 : Nat) : Int) := by have := HM.out; unfold wrap64; omega
      have HLT := Aside0.mk hlt
      have HRL := Aside0.mk (rows_le (show mayB (rd_T44 l (r : Nat)).f1 = true from HOK.out _ (rde_mem hlt)))
      obtain ⟨ad, A9, c9, A10, c10, hA, a0, a1, a2, a3, a4, a5, a6, a7, a8, a9, a10, a11, l9, g9, l10, g10⟩ := at_T44 H0.out (r : Int) (by omega) hlt1
      subst hA
      obtain ⟨bd, B9, d9, B10, d10, hB, b0, b1, b2, b3, b4, b5, b6, b7, b8, b9, b10, b11, m9, k9, m10, k10⟩ := at_T44 H1.out (r : Int) (by omega) hlt1
      subst hB
      rw [Int.toNat_natCast] at a0 a1 a2 a3 a4 a5 a6 a7 a8 a9 a10 a11 b0 b1 b2 b3 b4 b5 b6 b7 b8 b9 b10 b11
      have G9 := Aside0.mk g9; have G10 := Aside0.mk g10; have K9 := Aside0.mk k9; have K10 := Aside0.mk k10; have L9 := Aside0.mk l9; have L10 := Aside0.mk l10; have M9 := Aside0.mk m9; have M10 := Aside0.mk m10
      clear l9 g9 l10 g10 m9 k9 m10 k10
      generalize rd_T44 l (r : Nat) = x at *
      have HQA := Aside0.mk (show w.cell? (ad.add (r * 12)) = some (.int .i64 x.f0) ∧ w.cell? ⟨(ad.add (r * 12)).block, (ad.add (r * 12)).off + 1, none⟩ = some (.int .i64 x.f1.f0) ∧ w.cell? ⟨(ad.add (r * 12)).block, (ad.add (r * 12)).off + 2, none⟩ = some (.int .i64 x.f1.f1) ∧ w.cell? ⟨(ad.add (r * 12)).block, (ad.add (r * 12)).off + 3, none⟩ = some (.int .i64 x.f1.f2) ∧ w.cell? ⟨(ad.add (r * 12)).block, (ad.add (r * 12)).off + 4, none⟩ = some (.int .i64 x.f1.f3) ∧ w.cell? ⟨(ad.add (r * 12)).block, (ad.add (r * 12)).off + 5, none⟩ = some (.int .i64 x.f1.f4) ∧ w.cell? ⟨(ad.add (r * 12)).block, (ad.add (r * 12)).off + 6, none⟩ = some (.int .i64 x.f1.f5) ∧ w.cell? ⟨(ad.add (r * 12)).block, (ad.add (r * 12)).off + 7, none⟩ = some (.int .i64 x.f1.f6) ∧ w.cell? ⟨(ad.add (r * 12)).block, (ad.add (r * 12)).off + 8, none⟩ = some (.string x.f1.f7) ∧ w.cell? ⟨(ad.add (r * 12)).block, (ad.add (r * 12)).off + 9, none⟩ = some (.string x.f1.f8) ∧ w.cell? ⟨(ad.add (r * 12)).block, (ad.add (r * 12)).off + 10, none⟩ = some (.slice A9 x.f1.f9.length c9) ∧ w.cell? ⟨(ad.add (r * 12)).block, (ad.add (r * 12)).off + 11, none⟩ = some (.slice A10 x.f1.f10.length c10) ∧ w.cell? (bd.add (r * 12)) = some (.int .i64 x.f0) ∧ w.cell? ⟨(bd.add (r * 12)).block, (bd.add (r * 12)).off + 1, none⟩ = some (.int .i64 x.f1.f0) ∧ w.cell? ⟨(bd.add (r * 12)).block, (bd.add (r * 12)).off + 2, none⟩ = some (.int .i64 x.f1.f1) ∧ w.cell? ⟨(bd.add (r * 12)).block, (bd.add (r * 12)).off + 3, none⟩ = some (.int .i64 x.f1.f2) ∧ w.cell? ⟨(bd.add (r * 12)).block, (bd.add (r * 12)).off + 4, none⟩ = some (.int .i64 x.f1.f3) ∧ w.cell? ⟨(bd.add (r * 12)).block, (bd.add (r * 12)).off + 5, none⟩ = some (.int .i64 x.f1.f4) ∧ w.cell? ⟨(bd.add (r * 12)).block, (bd.add (r * 12)).off + 6, none⟩ = some (.int .i64 x.f1.f5) ∧ w.cell? ⟨(bd.add (r * 12)).block, (bd.add (r * 12)).off + 7, none⟩ = some (.int .i64 x.f1.f6) ∧ w.cell? ⟨(bd.add (r * 12)).block, (bd.add (r * 12)).off + 8, none⟩ = some (.string x.f1.f7) ∧ w.cell? ⟨(bd.add (r * 12)).block, (bd.add (r * 12)).off + 9, none⟩ = some (.string x.f1.f8) ∧ w.cell? ⟨(bd.add (r * 12)).block, (bd.add (r * 12)).off + 10, none⟩ = some (.slice B9 x.f1.f9.length d9) ∧ w.cell? ⟨(bd.add (r * 12)).block, (bd.add (r * 12)).off + 11, none⟩ = some (.slice B10 x.f1.f10.length d10) from ⟨a0, a1, a2, a3, a4, a5, a6, a7, a8, a9, a10, a11, b0, b1, b2, b3, b4, b5, b6, b7, b8, b9, b10, b11⟩)
      clear a0 a1 a2 a3 a4 a5 a6 a7 a8 a9 a10 a11 b0 b1 b2 b3 b4 b5 b6 b7 b8 b9 b10 b11
      go_upto_region 6 with (fail)
      have HB1 := Aside0.mk HB.out.drew
      clear HB
      obtain ⟨a0, a1, a2, a3, a4, a5, a6, a7, a8, a9, a10, a11, b0, b1, b2, b3, b4, b5, b6, b7, b8, b9, b10, b11⟩ := HQA.out
      replace a0 := pw_cell_below HB1.out a0
      replace a1 := pw_cell_below HB1.out a1
      replace a2 := pw_cell_below HB1.out a2
      replace a3 := pw_cell_below HB1.out a3
      replace a4 := pw_cell_below HB1.out a4
      replace a5 := pw_cell_below HB1.out a5
      replace a6 := pw_cell_below HB1.out a6
      replace a7 := pw_cell_below HB1.out a7
      replace a8 := pw_cell_below HB1.out a8
      replace a9 := pw_cell_below HB1.out a9
      replace a10 := pw_cell_below HB1.out a10
      replace a11 := pw_cell_below HB1.out a11
      replace b0 := pw_cell_below HB1.out b0
      replace b1 := pw_cell_below HB1.out b1
      replace b2 := pw_cell_below HB1.out b2
      replace b3 := pw_cell_below HB1.out b3
      replace b4 := pw_cell_below HB1.out b4
      replace b5 := pw_cell_below HB1.out b5
      replace b6 := pw_cell_below HB1.out b6
      replace b7 := pw_cell_below HB1.out b7
      replace b8 := pw_cell_below HB1.out b8
      replace b9 := pw_cell_below HB1.out b9
      replace b10 := pw_cell_below HB1.out b10
      replace b11 := pw_cell_below HB1.out b11
      refine start_ (n := 25) (S := fun w' => w'.cell? (ad.add (r * 12)) = some (.int .i64 x.f0) ∧ w'.cell? ⟨(ad.add (r * 12)).block, (ad.add (r * 12)).off + 1, none⟩ = some (.int .i64 x.f1.f0) ∧ w'.cell? ⟨(ad.add (r * 12)).block, (ad.add (r * 12)).off + 2, none⟩ = some (.int .i64 x.f1.f1) ∧ w'.cell? ⟨(ad.add (r * 12)).block, (ad.add (r * 12)).off + 3, none⟩ = some (.int .i64 x.f1.f2) ∧ w'.cell? ⟨(ad.add (r * 12)).block, (ad.add (r * 12)).off + 4, none⟩ = some (.int .i64 x.f1.f3) ∧ w'.cell? ⟨(ad.add (r * 12)).block, (ad.add (r * 12)).off + 5, none⟩ = some (.int .i64 x.f1.f4) ∧ w'.cell? ⟨(ad.add (r * 12)).block, (ad.add (r * 12)).off + 6, none⟩ = some (.int .i64 x.f1.f5) ∧ w'.cell? ⟨(ad.add (r * 12)).block, (ad.add (r * 12)).off + 7, none⟩ = some (.int .i64 x.f1.f6) ∧ w'.cell? ⟨(ad.add (r * 12)).block, (ad.add (r * 12)).off + 8, none⟩ = some (.string x.f1.f7) ∧ w'.cell? ⟨(ad.add (r * 12)).block, (ad.add (r * 12)).off + 9, none⟩ = some (.string x.f1.f8) ∧ w'.cell? ⟨(ad.add (r * 12)).block, (ad.add (r * 12)).off + 10, none⟩ = some (.slice A9 x.f1.f9.length c9) ∧ w'.cell? ⟨(ad.add (r * 12)).block, (ad.add (r * 12)).off + 11, none⟩ = some (.slice A10 x.f1.f10.length c10) ∧ w'.cell? (bd.add (r * 12)) = some (.int .i64 x.f0) ∧ w'.cell? ⟨(bd.add (r * 12)).block, (bd.add (r * 12)).off + 1, none⟩ = some (.int .i64 x.f1.f0) ∧ w'.cell? ⟨(bd.add (r * 12)).block, (bd.add (r * 12)).off + 2, none⟩ = some (.int .i64 x.f1.f1) ∧ w'.cell? ⟨(bd.add (r * 12)).block, (bd.add (r * 12)).off + 3, none⟩ = some (.int .i64 x.f1.f2) ∧ w'.cell? ⟨(bd.add (r * 12)).block, (bd.add (r * 12)).off + 4, none⟩ = some (.int .i64 x.f1.f3) ∧ w'.cell? ⟨(bd.add (r * 12)).block, (bd.add (r * 12)).off + 5, none⟩ = some (.int .i64 x.f1.f4) ∧ w'.cell? ⟨(bd.add (r * 12)).block, (bd.add (r * 12)).off + 6, none⟩ = some (.int .i64 x.f1.f5) ∧ w'.cell? ⟨(bd.add (r * 12)).block, (bd.add (r * 12)).off + 7, none⟩ = some (.int .i64 x.f1.f6) ∧ w'.cell? ⟨(bd.add (r * 12)).block, (bd.add (r * 12)).off + 8, none⟩ = some (.string x.f1.f7) ∧ w'.cell? ⟨(bd.add (r * 12)).block, (bd.add (r * 12)).off + 9, none⟩ = some (.string x.f1.f8) ∧ w'.cell? ⟨(bd.add (r * 12)).block, (bd.add (r * 12)).off + 10, none⟩ = some (.slice B9 x.f1.f9.length d9) ∧ w'.cell? ⟨(bd.add (r * 12)).block, (bd.add (r * 12)).off + 11, none⟩ = some (.slice B10 x.f1.f10.length d10)) (ds := []) #[false, false, false, false, false, false, false, false, false, false, false, false, false, false, false, false, false, false, false, false, false, false, false, false, false] (by kernel_rfl) rfl rfl ⟨a0, a1, a2, a3, a4, a5, a6, a7, a8, a9, a10, a11, b0, b1, b2, b3, b4, b5, b6, b7, b8, b9, b10, b11⟩ (fun hHeld => ?_)
      refine rgp 0 17 ?_
      refine rgp 1 18 ?_
      refine rgp 2 19 ?_
      refine rgp 3 20 ?_
      refine rgp 5 22 ?_
      refine rgp 6 23 ?_
      refine rgp 7 24 ?_
      refine rgp 8 25 ?_
      refine rgt 4 21 hHeld ?_
      refine rgt 9 26 hHeld ?_
      refine rgp 10 27 ?_
      refine rgp 11 28 ?_
      refine rgp 12 29 ?_
      refine rgp 13 30 ?_
      refine rgp 14 31 ?_
      refine rgp 15 32 ?_
      refine rgp 17 34 ?_
      refine rgp 18 35 ?_
      refine rgp 19 36 ?_
      refine rgp 20 37 ?_
      refine rgt 16 33 hHeld ?_
      refine rgt 21 38 hHeld ?_
      refine one_ (i := 22) (N := some 39) #[true, true, true, true, true, true, true, true, true, true, true, true, true, true, true, true, true, true, true, true, true, true, true, false, false] rfl rfl (by kernel_rfl) (by decide) (fun K hK => ?_)
      refine goes_ Try.func28 (by kernel_rfl) rfl #[.agg #[.int .i64 x.f1.f0, .int .i64 x.f1.f1, .int .i64 x.f1.f2, .int .i64 x.f1.f3, .int .i64 x.f1.f4, .int .i64 x.f1.f5, .int .i64 x.f1.f6, .string x.f1.f7, .string x.f1.f8, .slice A9 x.f1.f9.length c9, .slice A10 x.f1.f10.length c10], .agg #[.int .i64 x.f1.f0, .int .i64 x.f1.f1, .int .i64 x.f1.f2, .int .i64 x.f1.f3, .int .i64 x.f1.f4, .int .i64 x.f1.f5, .int .i64 x.f1.f6, .string x.f1.f7, .string x.f1.f8, .slice B9 x.f1.f9.length d9, .slice B10 x.f1.f10.length d10]] (by rfl) rfl rfl (by (try simp only [List.map_toArray, List.map_cons, List.map_nil]); first | done | rfl) ?_
      refine (same_len x.f1 (by have := HRL.out; omega) (by have := HRL.out; omega) A9 c9 A10 c10 B9 d9 B10 d10 _ (Kd.C_below G9.out HB1.out) L9.out (Kd.C_below G10.out HB1.out) L10.out (Kd.C_below K9.out HB1.out) M9.out (Kd.C_below K10.out HB1.out) M10.out).mono ?_
      rintro e v1_ ⟨rfl, hb1⟩
      skip
      refine ⟨_, rfl, ?_⟩
      have HB2 := Aside0.mk (Arr.below_trans HB1.out hb1)
      refine hK _ _ ⟨pw_cell_below hb1 a0, pw_cell_below hb1 a1, pw_cell_below hb1 a2, pw_cell_below hb1 a3, pw_cell_below hb1 a4, pw_cell_below hb1 a5, pw_cell_below hb1 a6, pw_cell_below hb1 a7, pw_cell_below hb1 a8, pw_cell_below hb1 a9, pw_cell_below hb1 a10, pw_cell_below hb1 a11, pw_cell_below hb1 b0, pw_cell_below hb1 b1, pw_cell_below hb1 b2, pw_cell_below hb1 b3, pw_cell_below hb1 b4, pw_cell_below hb1 b5, pw_cell_below hb1 b6, pw_cell_below hb1 b7, pw_cell_below hb1 b8, pw_cell_below hb1 b9, pw_cell_below hb1 b10, pw_cell_below hb1 b11⟩ (fun hHeld => ?_)
      clear hK K hb1
      refine norm_ (a' := ?_) ?_ ?_
      rotate_left
      · show Act.put _ (some 39) _ = _
        simp only [Act.put, List.setIfInBounds_toArray, List.set_cons_zero, List.set_cons_succ, i64_w, i32_w]
        rfl
      refine rgp 23 40 ?_
      refine rgp 24 41 ?_
      refine done_ (by kernel_rfl) ?_
      clear a0 a1 a2 a3 a4 a5 a6 a7 a8 a9 a10 a11 b0 b1 b2 b3 b4 b5 b6 b7 b8 b9 b10 b11 HB1
      go_wp2
      go_roundw
      case rel => exact ⟨r + 1, by first | rfl | (rw [hwk]) | go_num, ⟨by have := HLT.out; omega⟩, HB2⟩
      case measure =>
        have := HLT.out
        (try rw [hwk])
        show l.length - (intOf (.int .i64 ((r + 1 : Nat) : Int))).toNat < l.length - (intOf (.int .i64 (r : Int))).toNat
        simp only [intOf]; omega
    · obtain rfl : r = l.length := by have := HR.out; omega
      clear hlt
      go_wp2
      go_ret
      exact ⟨rfl, HB.out⟩
theorem sameall_eq (l : List S44) (A0 : Option Addr) (c0 : Nat) (A1 : Option Addr) (c1 : Nat) (w : World) (h0 : Kd.C k44 w A0 l.length l) (h1 : Kd.C k44 w A1 l.length l) (hok : ∀ x ∈ l, okE x) (hm : l.length ≤ 1000000) :
    Calls Try.prog 21 #[.slice A0 l.length c0, .slice A1 l.length c1] w fun e w' => e = .returned (.bool true) ∧ Below w.heap.size w w' := sameall_big l A0 c0 A1 c1 w h0 h1 hok (Nat.le_trans hm (by decide))
end Go.Proofs.Ytbnglmeljbiglaa.X4
set_option maxRecDepth 8192
namespace Go.Proofs.Ytbnglmeljbiglaa.X4
open Go.Proofs.Ytbnglmeljbiglaa.Pt Go.Proofs.Ytbnglmeljbiglaa.Ptb Go.Proofs.Ytbnglmeljbiglaa.Rp Go.Proofs.Ytbnglmeljbiglaa.Wl Go Go.RowKit Go.ChangeMaps Go.Proofs.Ytbnglmeljbiglaa.Arr Go.Proofs.Ytbnglmeljbiglaa.Mp Go.Proofs.Ytbnglmeljbiglaa.Ow Go.Proofs.Ytbnglmeljbiglaa.Dk Go.Proofs.Ytbnglmeljbiglaa.Fr Go.Proofs.YtbnglmeljbiglaaW.PrintWords Go.Proofs.YtbnglmeljbiglaaW.PrintLast Go.Proofs.YtbnglmeljbiglaaW.PrintMore
set_option linter.unusedVariables false
set_option linter.unusedSimpArgs false
/-- Calls as a program can have them. -/
def OkOp (x : S40) : Prop := (-9223372036854775808 ≤ x.f0 ∧ x.f0 < 9223372036854775808) ∧ (-9223372036854775808 ≤ x.f1 ∧ x.f1 < 9223372036854775808) ∧ ∀ y ∈ x.f3, 0 ≤ y ∧ y < 256
def OkOps (l : List S40) : Prop := ∀ x ∈ l, OkOp x
def fewB (r : S37) : Bool := decide (r.f7.size ≤ 300 ∧ r.f8.size ≤ 300 ∧ r.f9.length ≤ 50 ∧ r.f10.length ≤ 50)
theorem few_f (r : S37) : careenref04_Few.f r.f0 r.f1 r.f2 r.f3 r.f4 r.f5 r.f6 r.f7 r.f8 r.f9 r.f10 = some (fewB r) := by
  unfold careenref04_Few.f fewB
  by_cases h1 : r.f7.size ≤ 300
  · by_cases h2 : r.f8.size ≤ 300
    · by_cases h3 : r.f9.length ≤ 50
      · rw [if_pos (by omega), if_pos (by omega), if_pos (by omega)]
        exact congrArg some (decide_eq_decide.2 ⟨fun h => ⟨h1, h2, h3, by omega⟩, fun h => by have := h.2.2.2; omega⟩)
      · rw [if_pos (by omega), if_pos (by omega), if_neg (by omega), decide_eq_false (fun h => h3 h.2.2.1)]
    · rw [if_pos (by omega), if_neg (by omega), decide_eq_false (fun h => h2 h.2.1)]
  · rw [if_neg (by omega), decide_eq_false (fun h => h1 h.1)]
theorem few_calls (r : S37) (A9 : Option Addr) (c9 : Nat) (A10 : Option Addr) (c10 : Nat) (w : World) (h9 : Kd.C k107 w A9 r.f9.length r.f9) (l9 : r.f9.length ≤ c9) (h10 : Kd.C k109 w A10 r.f10.length r.f10) (l10 : r.f10.length ≤ c10) :
    Calls Try.prog 22 #[.agg #[.int .i64 r.f0, .int .i64 r.f1, .int .i64 r.f2, .int .i64 r.f3, .int .i64 r.f4, .int .i64 r.f5, .int .i64 r.f6, .string r.f7, .string r.f8, .slice A9 r.f9.length c9, .slice A10 r.f10.length c10]] w fun e w' => e = .returned (.bool (fewB r)) ∧ Below w.heap.size w w' := careenref04_Few.calls _ _ _ _ _ _ _ _ _ A9 c9 _ A10 c10 _ (fewB r) w h9 l9 h10 l10 (few_f r)
def longF (l : List S40) : Bool := l.any (fun x => !fewB x.f2 || decide (200 < x.f3.length)) || decide (200 < l.length)
theorem rd_mem {l : List S40} {k : Nat} (h : k < l.length) : rd_T40 l k ∈ l := by
  unfold rd_T40
  rw [Int.toNat_natCast, List.getD_eq_getElem?_getD, List.getElem?_eq_getElem h]
  exact List.getElem_mem h
theorem long_yes {l : List S40} {x : S40} (hx : x ∈ l) (h : fewB x.f2 = false ∨ 200 < x.f3.length) : longF l = true := by
  unfold longF
  rw [Bool.or_eq_true, List.any_eq_true]
  refine .inl ⟨x, hx, ?_⟩
  rw [Bool.or_eq_true]
  rcases h with h | h
  · exact .inl (by rw [h]; rfl)
  · exact .inr (decide_eq_true h)
theorem long_len {l : List S40} (h : ∀ k, k < l.length → fewB (rd_T40 l (k : Nat)).f2 = true ∧ (rd_T40 l (k : Nat)).f3.length ≤ 200) : longF l = decide (200 < l.length) := by
  have h1 : (l.any fun x => !fewB x.f2 || decide (200 < x.f3.length)) = false := by
    rw [List.any_eq_false]
    intro x hx
    obtain ⟨k, hk, e⟩ := List.mem_iff_getElem.1 hx
    have e2 : rd_T40 l (k : Nat) = x := by
      unfold rd_T40
      rw [Int.toNat_natCast, List.getD_eq_getElem?_getD, List.getElem?_eq_getElem hk]
      exact e
    have := h k hk
    rw [e2] at this
    rw [this.1, decide_eq_false (by omega)]
    decide
  unfold longF
  rw [h1, Bool.false_or]
set_option maxHeartbeats 8000000 in
theorem long_calls (A0 : Option Addr) (c0 : Nat) (l : List S40) (w : World) (hr : Kd.C k40 w A0 l.length l) (hc : l.length ≤ c0) : Calls Try.prog 14 #[.slice A0 l.length c0] w fun e w' => e = .returned (.bool (longF l)) ∧ Below w.heap.size w w' := by
  have H0 := Aside0.mk hr; have HM := Aside0.mk (Kd.C_max hr)
  clear hr hc
  have HB := Aside0.mk (Below.refl w.heap.size w)
  go_enter Try.func14, Try.ntmps14
  go_upto_region 2 with (fail)
  go_loopw [7] (fun v wr => ∃ r : Nat, v = .int .i64 r ∧ Aside0 (r ≤ l.length) ∧ Aside0 (∀ k, k < r → fewB (rd_T40 l (k : Nat)).f2 = true ∧ (rd_T40 l (k : Nat)).f3.length ≤ 200) ∧ Aside0 (Below w.heap.size w wr)) (fun v _ => l.length - (intOf v).toNat)
  case atStart => exact ⟨0, rfl, ⟨Nat.zero_le _⟩, ⟨fun k hk => absurd hk (Nat.not_lt_zero _)⟩, HB⟩
  case round =>
    clear HB
    obtain ⟨r, rfl, HR, HF, HB⟩ := hrel
    by_cases hlt : r < l.length
    · have hlt1 : (r : Int) < (l.length : Int) := by omega
      have hwk : wrap64 ((r : Int) + 1) = ((r + 1 : Nat) : Int) := by have := HM.out; unfold wrap64; omega
      have HLT := Aside0.mk hlt
      obtain ⟨ad, A11, c11, A12, c12, A13, c13, hA, q0, q1, q2, q3, q4, q5, q6, q7, q8, q9, q10, q11, q12, q13, l11, g11, l12, g12, l13, g13⟩ := at_T40 H0.out (r : Int) (by omega) hlt1
      subst hA
      rw [Int.toNat_natCast] at q0 q1 q2 q3 q4 q5 q6 q7 q8 q9 q10 q11 q12 q13
      replace q0 := pw_cell_below HB.out q0
      replace q1 := pw_cell_below HB.out q1
      replace q2 := pw_cell_below HB.out q2
      replace q3 := pw_cell_below HB.out q3
      replace q4 := pw_cell_below HB.out q4
      replace q5 := pw_cell_below HB.out q5
      replace q6 := pw_cell_below HB.out q6
      replace q7 := pw_cell_below HB.out q7
      replace q8 := pw_cell_below HB.out q8
      replace q9 := pw_cell_below HB.out q9
      replace q10 := pw_cell_below HB.out q10
      replace q11 := pw_cell_below HB.out q11
      replace q12 := pw_cell_below HB.out q12
      replace q13 := pw_cell_below HB.out q13
      have G11 := Aside0.mk g11; have G12 := Aside0.mk g12; have L11 := Aside0.mk l11; have L12 := Aside0.mk l12; have HMEM := Aside0.mk (rd_mem hlt)
      clear l11 g11 l12 g12 l13 g13
      generalize ho : rd_T40 l (r : Nat) = o_ at *
      have HO := Aside0.mk ho
      clear ho
      go_upto_region 4 with (fail)
      have hba := (Below.refl wr.heap.size wr).alloc (Nat.le_refl _) (.cells #[.int .i64 o_.f0, .int .i64 o_.f1, .int .i64 o_.f2.f0, .int .i64 o_.f2.f1, .int .i64 o_.f2.f2, .int .i64 o_.f2.f3, .int .i64 o_.f2.f4, .int .i64 o_.f2.f5, .int .i64 o_.f2.f6, .string o_.f2.f7, .string o_.f2.f8, .slice A11 o_.f2.f9.length c11, .slice A12 o_.f2.f10.length c12, .slice A13 o_.f3.length c13] 40)
      have HT := Aside0.mk (heap_alloc_new wr (.cells #[.int .i64 o_.f0, .int .i64 o_.f1, .int .i64 o_.f2.f0, .int .i64 o_.f2.f1, .int .i64 o_.f2.f2, .int .i64 o_.f2.f3, .int .i64 o_.f2.f4, .int .i64 o_.f2.f5, .int .i64 o_.f2.f6, .string o_.f2.f7, .string o_.f2.f8, .slice A11 o_.f2.f9.length c11, .slice A12 o_.f2.f10.length c12, .slice A13 o_.f3.length c13] 40))
      have HB1 := Aside0.mk (Arr.below_trans HB.out hba)
      clear hba HB q0 q1 q2 q3 q4 q5 q6 q7 q8 q9 q10 q11 q12 q13
      generalize wr.alloc (.cells #[.int .i64 o_.f0, .int .i64 o_.f1, .int .i64 o_.f2.f0, .int .i64 o_.f2.f1, .int .i64 o_.f2.f2, .int .i64 o_.f2.f3, .int .i64 o_.f2.f4, .int .i64 o_.f2.f5, .int .i64 o_.f2.f6, .string o_.f2.f7, .string o_.f2.f8, .slice A11 o_.f2.f9.length c11, .slice A12 o_.f2.f10.length c12, .slice A13 o_.f3.length c13] 40) = W4 at *
      generalize wr.heap.size = ob at *
      have q0 : W4.cell? ⟨ob, 0, none⟩ = some (.int .i64 o_.f0) := blk_cell HT.out 0
      have q1 : W4.cell? ⟨ob, 1, none⟩ = some (.int .i64 o_.f1) := blk_cell HT.out 1
      have q2 : W4.cell? ⟨ob, 2, none⟩ = some (.int .i64 o_.f2.f0) := blk_cell HT.out 2
      have q3 : W4.cell? ⟨ob, 3, none⟩ = some (.int .i64 o_.f2.f1) := blk_cell HT.out 3
      have q4 : W4.cell? ⟨ob, 4, none⟩ = some (.int .i64 o_.f2.f2) := blk_cell HT.out 4
      have q5 : W4.cell? ⟨ob, 5, none⟩ = some (.int .i64 o_.f2.f3) := blk_cell HT.out 5
      have q6 : W4.cell? ⟨ob, 6, none⟩ = some (.int .i64 o_.f2.f4) := blk_cell HT.out 6
      have q7 : W4.cell? ⟨ob, 7, none⟩ = some (.int .i64 o_.f2.f5) := blk_cell HT.out 7
      have q8 : W4.cell? ⟨ob, 8, none⟩ = some (.int .i64 o_.f2.f6) := blk_cell HT.out 8
      have q9 : W4.cell? ⟨ob, 9, none⟩ = some (.string o_.f2.f7) := blk_cell HT.out 9
      have q10 : W4.cell? ⟨ob, 10, none⟩ = some (.string o_.f2.f8) := blk_cell HT.out 10
      have q11 : W4.cell? ⟨ob, 11, none⟩ = some (.slice A11 o_.f2.f9.length c11) := blk_cell HT.out 11
      have q12 : W4.cell? ⟨ob, 12, none⟩ = some (.slice A12 o_.f2.f10.length c12) := blk_cell HT.out 12
      have q13 : W4.cell? ⟨ob, 13, none⟩ = some (.slice A13 o_.f3.length c13) := blk_cell HT.out 13
      cases hf : fewB o_.f2 with
      | false =>
        have HFW := Aside0.mk hf
        have HY := Aside0.mk (long_yes HMEM.out (.inl hf))
        clear hf
        go_wp2_with (go_at_call 22; (with_reducible refine (few_calls o_.f2 A11 c11 A12 c12 _ (Kd.C_below G11.out HB1.out) L11.out (Kd.C_below G12.out HB1.out) L12.out).mono ?_); rintro e w1 ⟨rfl, hb1⟩; rw [HFW.out]; have HB2 := Aside0.mk (Arr.below_trans HB1.out hb1); clear hb1)
        go_ret
        exact ⟨by rw [HY.out]; rfl, HB2.out⟩
      | true =>
        have HFW := Aside0.mk hf
        clear hf
        by_cases hz : 200 < o_.f3.length
        · have HY := Aside0.mk (long_yes HMEM.out (.inr hz))
          have z1 : decide ((200 : Int) < (o_.f3.length : Int)) = true := decide_eq_true (by omega)
          have z2 : ((200 : Int) < (o_.f3.length : Int)) = True := eq_true (by omega)
          clear hz
          go_wp2_with (go_at_call 22; (with_reducible refine (few_calls o_.f2 A11 c11 A12 c12 _ (Kd.C_below G11.out HB1.out) L11.out (Kd.C_below G12.out HB1.out) L12.out).mono ?_); rintro e w1 ⟨rfl, hb1⟩; rw [HFW.out]; have HB2 := Aside0.mk (Arr.below_trans HB1.out hb1); have q13 : w1.cell? ⟨ob, 13, none⟩ = some (.slice A13 o_.f3.length c13) := pw_cell_below hb1 q13; clear hb1)
          go_ret
          exact ⟨by rw [HY.out]; rfl, HB2.out⟩
        · have z1 : decide ((200 : Int) < (o_.f3.length : Int)) = false := decide_eq_false (by omega)
          have z2 : ((200 : Int) < (o_.f3.length : Int)) = False := eq_false (by omega)
          have hfn : ∀ k, k < r + 1 → fewB (rd_T40 l (k : Nat)).f2 = true ∧ (rd_T40 l (k : Nat)).f3.length ≤ 200 := fun k hk => by
            by_cases e : k = r
            · rw [e, HO.out]; exact ⟨HFW.out, by omega⟩
            · exact HF.out k (by omega)
          have HF2 := Aside0.mk hfn
          clear hz hfn
          go_wp2_with (go_at_call 22; (with_reducible refine (few_calls o_.f2 A11 c11 A12 c12 _ (Kd.C_below G11.out HB1.out) L11.out (Kd.C_below G12.out HB1.out) L12.out).mono ?_); rintro e w1 ⟨rfl, hb1⟩; rw [HFW.out]; have HB2 := Aside0.mk (Arr.below_trans HB1.out hb1); have q13 : w1.cell? ⟨ob, 13, none⟩ = some (.slice A13 o_.f3.length c13) := pw_cell_below hb1 q13; clear hb1)
          go_roundw
          case rel => exact ⟨r + 1, by first | rfl | (rw [hwk]) | go_num, ⟨by have := HLT.out; omega⟩, HF2, HB2⟩
          case measure =>
            have := HLT.out
            (try rw [hwk])
            show l.length - (intOf (.int .i64 ((r + 1 : Nat) : Int))).toNat < l.length - (intOf (.int .i64 (r : Int))).toNat
            simp only [intOf]; omega
    · obtain rfl : r = l.length := by have := HR.out; omega
      have HY := Aside0.mk (long_len HF.out)
      clear hlt
      go_wp2
      go_ret
      refine ⟨?_, HB.out⟩
      rw [HY.out]
      first | rfl | (refine congrArg (fun b => Ending.returned (Value.bool b)) (decide_eq_decide.2 ⟨fun h => by omega, fun h => by omega⟩))
theorem long_no {l : List S40} (h : longF l = false) : l.length ≤ 200 ∧ ∀ x ∈ l, fewB x.f2 = true ∧ x.f3.length ≤ 200 := by
  unfold longF at h
  rw [Bool.or_eq_false_iff, List.any_eq_false, decide_eq_false_iff_not] at h
  refine ⟨by omega, fun x hx => ?_⟩
  have := h.1 x hx
  simp only [Bool.not_eq_true, Bool.or_eq_false_iff, Bool.not_eq_false', decide_eq_false_iff_not] at this
  exact ⟨this.1, by omega⟩
theorem few_le {r : S37} (h : fewB r = true) : r.f8.size ≤ 1000000 := by
  unfold fewB at h
  rw [decide_eq_true_iff] at h
  omega
end Go.Proofs.Ytbnglmeljbiglaa.X4
set_option maxRecDepth 8192
namespace Go.Proofs.Ytbnglmeljbiglaa.Wl
open Go.Proofs.Ytbnglmeljbiglaa.X4 Go Go.RowKit Go.ChangeMaps Go.Proofs.Ytbnglmeljbiglaa.Arr Go.Proofs.Ytbnglmeljbiglaa.Mp Go.Proofs.Ytbnglmeljbiglaa.Ow Go.Proofs.Ytbnglmeljbiglaa.Dk Go.Proofs.Ytbnglmeljbiglaa.Fr Go.Proofs.YtbnglmeljbiglaaW.PrintWords Go.Proofs.YtbnglmeljbiglaaW.PrintLast Go.Proofs.YtbnglmeljbiglaaW.PrintMore
set_option linter.unusedVariables false
set_option linter.unusedSimpArgs false
theorem fr_grown {W w1 : World} {c : Nat → Nat} {row : Option Nat} (hg : W.grownBy w1 row) (x : Nat) (hrow : ∀ k, row = some k → c k = x) : Fr [x] W c w1 (Dk.paint c W.heap.size x) :=
  ⟨hg.os, hg.tape, hg.output, hg.size, fun k hk => paint_old hk, fun k hk hn => hg.block k hk (fun e => hn (by rw [hrow k e.symm]; exact List.mem_singleton.2 rfl))⟩
def okC (n0 : Nat) (c : Nat → Nat) (x : Nat) : Nat → Prop := fun k => k < n0 ∨ c k = x
theorem heap_T : Kd.Heap k107 := Kd.heap_iso _ (Kd.heap_pair (Kd.heap_int _) (Kd.heap_pair (Kd.heap_int _) (Kd.heap_int _)))
theorem heap_Q : Kd.Heap k109 := Kd.heap_iso _ (Kd.heap_pair (Kd.heap_int _) (Kd.heap_int _))
/-- A row of the law's own of colour x; what its elements lead to came in, or is of that colour. -/
def NL {α : Type} (K : Kd α) (e n0 : Nat) (w : World) (c : Nat → Nat) (x : Nat) (v : Value) (xs : List α) : Prop := Kd.N K e w n0 (okC n0 c x) v xs
section
variable {α : Type} {K : Kd α} {e x n0 : Nat} {w0 w w' : World} {c c' : Nat → Nat} {v : Value} {xs : List α} {M : List Nat}
theorem nl_nil (K : Kd α) (e n0 : Nat) (w : World) (c : Nat → Nat) (x : Nat) : NL K e n0 w c x (.slice none 0 0) [] := Kd.N_nil _ _ _ _ _
theorem NL.own (h : NL K e n0 w c x v xs) : ∀ k, v.ownBlock = some k → c k = x := fun k hk => by
  rcases h.1 k hk with h1 | h1
  · have := Kd.N_base h k hk
    omega
  · exact h1
theorem NL.recol (h : NL K e n0 w c x v xs) (hc : ∀ k, k < w.heap.size → c' k = c k) : NL K e n0 w c' x v xs := Kd.N_mono (Kd.N_bound h) (fun k hk => by
  rcases hk.1 with h1 | h1
  · exact .inl h1
  · exact .inr ((hc k hk.2).trans h1))
theorem NL.keep (h : NL K e w0.heap.size w c x v xs) (G : Gr w0 w c) (hf : Fr M w c w' c') (hx : x ∉ M) (h0 : 0 ∉ M) : NL K e w0.heap.size w' c' x v xs := by
  have h1 : NL K e w0.heap.size w c' x v xs := h.recol hf.col
  refine Kd.N_step h1 (fun k hk hlt => hf.blk k hlt ?_)
  rcases hk with h2 | h2
  · rw [G.olds k h2]; exact h0
  · rw [← hf.col k hlt, h2]; exact hx
theorem NL.below (h : NL K e n0 w c x v xs) (hb : Below w.heap.size w w') : NL K e n0 w' c x v xs := Kd.N_below h hb
theorem NL.drew (h : NL K e n0 w c x v xs) : NL K e n0 w.drew c x v xs := h.below ((Below.refl _ _).drew)
theorem NL.paint (h : NL K e n0 w c x v xs) (y : Nat) : NL K e n0 w (Dk.paint c w.heap.size y) x v xs := h.recol fun _ hk => paint_old hk
theorem NL.slice (h : NL K e n0 w c x v xs) : ∃ A cp, v = .slice A xs.length cp := Kd.N_slice h
theorem NL.reads {A : Option Addr} {n cp : Nat} (h : NL K e n0 w c x (.slice A n cp) xs) : n = xs.length ∧ n ≤ cp ∧ K.C w A xs.length xs := Kd.N_reads' h
theorem ok_new (n0 : Nat) (c : Nat → Nat) (x s : Nat) : ∀ k, s ≤ k → okC n0 (Dk.paint c s x) x k := fun _ hk => .inr (paint_new hk)
theorem NL.old (h : NL K e n0 w c x v xs) : ∀ k, k < n0 → okC n0 c' x k ∧ some k ≠ v.ownBlock := fun k hk => ⟨.inl hk, fun e1 => by
  have := Kd.N_base h k e1.symm
  omega⟩
theorem NL.apart {y s : Nat} (h : NL K e n0 w c x v xs) (hxy : x ≠ y) : ∀ k, okC n0 c y k → (okC n0 (Dk.paint c s x) x k ∨ okC n0 c y k) ∧ some k ≠ v.ownBlock := fun k hk => ⟨.inr hk, fun e1 => by
  have h1 := Kd.N_base h k e1.symm
  have h2 := h.own k e1.symm
  rcases hk with hk | hk
  · omega
  · exact hxy (h2.symm.trans hk)⟩
theorem NL.at_ (h : NL K e n0 w c x v xs) : ∀ k, v.ownBlock = some k → c k = x ∧ k < w.heap.size := fun k hk => ⟨h.own k hk, Kd.N_lt h k hk⟩
end
theorem fk_ent {w0 W : World} (hb : Below w0.heap.size w0 W) (x : S44) {A9 : Option Addr} {c9 : Nat} {A10 : Option Addr} {c10 : Nat} (h9 : Kd.C k107 w0 A9 x.f1.f9.length x.f1.f9) (l9 : x.f1.f9.length ≤ c9) (h10 : Kd.C k109 w0 A10 x.f1.f10.length x.f1.f10) (l10 : x.f1.f10.length ≤ c10) :
    Kd.FK k44 W (fun k => k < w0.heap.size) x [.int .i64 x.f0, .int .i64 x.f1.f0, .int .i64 x.f1.f1, .int .i64 x.f1.f2, .int .i64 x.f1.f3, .int .i64 x.f1.f4, .int .i64 x.f1.f5, .int .i64 x.f1.f6, .string x.f1.f7, .string x.f1.f8, .slice A9 x.f1.f9.length c9, .slice A10 x.f1.f10.length c10] := fun W' hW => by
  have hs : ∀ k, k < w0.heap.size → W'.heap[k]? = w0.heap[k]? := fun k hk => (hW k hk (Nat.lt_of_lt_of_le hk hb.size)).trans (hb.block k hk)
  have t9 : Kd.Heap k107 := heap_T
  have t10 : Kd.Heap k109 := heap_Q
  exact k44_mk W' x l9 (t9.C hs h9) l10 (t10.C hs h10)
end Go.Proofs.Ytbnglmeljbiglaa.Wl
set_option maxRecDepth 8192
namespace Go.Proofs.Ytbnglmeljbiglaa.X4
open Go.Proofs.Ytbnglmeljbiglaa.Pt Go.Proofs.Ytbnglmeljbiglaa.Ptb Go.Proofs.Ytbnglmeljbiglaa.Rp Go.Proofs.Ytbnglmeljbiglaa.Wl Go Go.RowKit Go.ChangeMaps Go.Proofs.Ytbnglmeljbiglaa.Arr Go.Proofs.Ytbnglmeljbiglaa.Mp Go.Proofs.Ytbnglmeljbiglaa.Ow Go.Proofs.Ytbnglmeljbiglaa.Dk Go.Proofs.Ytbnglmeljbiglaa.Fr Go.Proofs.YtbnglmeljbiglaaW.PrintWords Go.Proofs.YtbnglmeljbiglaaW.PrintLast Go.Proofs.YtbnglmeljbiglaaW.PrintMore
set_option linter.unusedVariables false
set_option linter.unusedSimpArgs false
set_option maxHeartbeats 16000000 in
set_option maxRecDepth 20000 in
theorem again_walk (n : Int) (A0 : Option Addr) (c0 : Nat) (l : List S40) (low : Int) (w : World) (hr : Kd.C k40 w A0 l.length l) (hc0 : l.length ≤ c0) (ho : OkOps l) : Calls Try.prog 7 #[.int .i64 n, .slice A0 l.length c0, .int .i64 low] w fun e w' => e = .returned (.bool true) ∧ Below w.heap.size w w' := by
  have hm := Kd.C_max hr
  have HR := Aside0.mk hr; have HC0 := Aside0.mk hc0; have HOPS := Aside0.mk ho; have HE := Aside0.mk (show (1 : Int) < 4294967290 by decide)
  clear hr hc0 ho
  have G := Aside0.mk (Gr.refl w)
  go_enter Try.func7, Try.ntmps7
  have hi := Lv.mod_ok 20 n (by decide) (by decide)
  have hwn : wrap64 (8 + wrap64 ((IntKind.u64.wrap n).tmod 20)) = 8 + wrap64 ((IntKind.u64.wrap n).tmod 20) := by
    generalize wrap64 ((IntKind.u64.wrap n).tmod 20) = z at *
    unfold wrap64; omega
  go_upto_region 2 with (fail)
  (try simp only [hwn])
  clear hwn
  obtain ⟨N, hN⟩ : ∃ N : Nat, 8 + wrap64 ((IntKind.u64.wrap n).tmod 20) = (N : Int) := ⟨(8 + wrap64 ((IntKind.u64.wrap n).tmod 20)).toNat, by omega⟩
  (try rw [hN])
  have hn8 : 8 ≤ N ∧ N ≤ 27 := by omega
  clear hN hi
  have HNa := Aside0.mk (show 1 ≤ N by omega); have HNb := Aside0.mk (show N ≤ 512 by omega); have HNi := Aside0.mk (show -9223372036854775808 ≤ (N : Int) ∧ (N : Int) < 9223372036854775808 by omega); have HNc := Aside0.mk (show (1 : Int) ≤ (N : Int) ∧ (N : Int) ≤ 64 by omega)
  have HQ := Aside0.mk (qs_new (n := (N : Int)) (L := N) (by omega) (Int.le_refl _) (by omega))
  clear hn8
  go_upto_region 3 with (go_at_call 11; (with_reducible refine (newdiskG N HNa.out HNb.out G.out).mono ?_); rintro e w1 ⟨g, rfl, hk, hf⟩; have G_n := Aside0.mk (G.out.step hf (by decide)); clear G; have G := G_n; clear G_n; have HD := Aside0.mk hk; clear hk hf)
  go_upto_region 4 with (go_at_call 12; (with_reducible refine (lnew_calls HD.out HQ.out.ok 0 (N : Int) (by decide) HNi.out HQ.out.lies).mono ?_); rintro e w1 ⟨gl, m, c1, rfl, hf, hl, hd⟩; have G_n := Aside0.mk (G.out.step hf (by decide)); clear G; have G := G_n; clear G_n; clear HD; have HD := Aside0.mk hd; have HL := Aside0.mk hl; clear hl hd hf)
  generalize newW 0 (N : Int) = W0 at *
  generalize newD N = d0 at *
  generalize (fun _ => [] : Int → List Rc_) = R0 at *
  generalize (fun _ => 0 : Int → Int) = e0 at *
  cases hlg : longF l with
  | true =>
    go_wp2_with (first | (go_at_call 13; (with_reducible refine (awake_calls _).mono ?_); rintro e w1 ⟨rfl, hb1⟩; have G_n := Aside0.mk (G.out.below hb1); have HD_n := Aside0.mk (HD.out.below hb1); have HL_n := Aside0.mk (HL.out.below hb1); clear G HD HL; have G := G_n; have HD := HD_n; have HL := HL_n; clear G_n HD_n HL_n; clear hb1) | (go_at_call 14; (with_reducible refine (long_calls _ _ _ _ (Kd.C_below HR.out G.out.bel) HC0.out).mono ?_); rintro e w1 ⟨rfl, hb1⟩; have G_n := Aside0.mk (G.out.below hb1); have HD_n := Aside0.mk (HD.out.below hb1); have HL_n := Aside0.mk (HL.out.below hb1); clear G HD HL; have G := G_n; have HD := HD_n; have HL := HL_n; clear G_n HD_n HL_n; clear hb1))
    go_ret
    exact ⟨rfl, G.out.bel⟩
  | false =>
    have HLG := Aside0.mk (long_no hlg)
    go_upto_region 6 with (first | (go_at_call 13; (with_reducible refine (awake_calls _).mono ?_); rintro e w1 ⟨rfl, hb1⟩; have G_n := Aside0.mk (G.out.below hb1); have HD_n := Aside0.mk (HD.out.below hb1); have HL_n := Aside0.mk (HL.out.below hb1); clear G HD HL; have G := G_n; have HD := HD_n; have HL := HL_n; clear G_n HD_n HL_n; clear hb1) | (go_at_call 14; (with_reducible refine (long_calls _ _ _ _ (Kd.C_below HR.out G.out.bel) HC0.out).mono ?_); rintro e w1 ⟨rfl, hb1⟩; have G_n := Aside0.mk (G.out.below hb1); have HD_n := Aside0.mk (HD.out.below hb1); have HL_n := Aside0.mk (HL.out.below hb1); clear G HD HL; have G := G_n; have HD := HD_n; have HL := HL_n; clear G_n HD_n HL_n; clear hb1))
    clear hlg
    go_upto_region 7 with (fail)
    go_loopw [50] (fun v wr => ∃ (r : Nat) (W : WS) (R : Int → List Rc_) (d : DS) (e : Int → Int) (c : Nat → Nat), v = .int .i64 r ∧ Aside0 (r ≤ l.length) ∧ Aside0 (Gr w wr c) ∧ Aside0 (LO wr c gl m g W) ∧ Aside0 (DK wr (Col c 1) g d) ∧ Aside0 (Qs (N : Int) 1 W R d e)) (fun v _ => l.length - (intOf v).toNat)
    case atStart => exact ⟨0, _, _, _, _, _, rfl, ⟨by omega⟩, G, HL, HD, HQ⟩
    case round =>
      clear G HL HD HQ
      obtain ⟨r, W, R, d, e, c, rfl, HRL, G, HL, HD, HQ⟩ := hrel
      by_cases hlt : r < l.length
      · have h1 : (r : Int) < (l.length : Int) := by omega
        have hwk : wrap64 ((r : Int) + 1) = ((r + 1 : Nat) : Int) := by unfold wrap64; omega
        have HLT := Aside0.mk hlt
        obtain ⟨ad, A11, c11, A12, c12, A13, c13, hA0, q0, q1, q2, q3, q4, q5, q6, q7, q8, q9, q10, q11, q12, q13, l11, g11, l12, g12, l13, g13⟩ := at_T40 HR.out (r : Int) (by omega) h1
        subst hA0
        replace q0 := pw_cell_below G.out.bel q0
        replace q1 := pw_cell_below G.out.bel q1
        replace q2 := pw_cell_below G.out.bel q2
        replace q3 := pw_cell_below G.out.bel q3
        replace q4 := pw_cell_below G.out.bel q4
        replace q5 := pw_cell_below G.out.bel q5
        replace q6 := pw_cell_below G.out.bel q6
        replace q7 := pw_cell_below G.out.bel q7
        replace q8 := pw_cell_below G.out.bel q8
        replace q9 := pw_cell_below G.out.bel q9
        replace q10 := pw_cell_below G.out.bel q10
        replace q11 := pw_cell_below G.out.bel q11
        replace q12 := pw_cell_below G.out.bel q12
        replace q13 := pw_cell_below G.out.bel q13
        rw [Int.toNat_natCast] at q0 q1 q2 q3 q4 q5 q6 q7 q8 q9 q10 q11 q12 q13
        have HZ := Aside0.mk (few_le (HLG.out.2 _ (rd_mem hlt)).1)
        have H11 := Aside0.mk g11; have H12 := Aside0.mk g12; have L11 := Aside0.mk l11; have L12 := Aside0.mk l12
        clear l11 g11 l12 g12 l13 g13
        generalize rd_T40 l (r : Nat) = o_ at *
        go_upto_region 9 with (fail)
        have hf := fr_alloc [] wr c 4 (.cells #[.int .i64 o_.f0, .int .i64 o_.f1, .int .i64 o_.f2.f0, .int .i64 o_.f2.f1, .int .i64 o_.f2.f2, .int .i64 o_.f2.f3, .int .i64 o_.f2.f4, .int .i64 o_.f2.f5, .int .i64 o_.f2.f6, .string o_.f2.f7, .string o_.f2.f8, .slice A11 o_.f2.f9.length c11, .slice A12 o_.f2.f10.length c12, .slice A13 o_.f3.length c13] 40)
        have G_n := Aside0.mk (G.out.step hf (by decide)); have HD_n := Aside0.mk (dk_keep HD.out hf (by decide)); have HL_n := Aside0.mk (HL.out.keep hf (by decide)); clear G HD HL; have G := G_n; have HD := HD_n; have HL := HL_n; clear G_n HD_n HL_n
        have LB := Aside0.mk (loc_alloc wr c 4 #[.int .i64 o_.f0, .int .i64 o_.f1, .int .i64 o_.f2.f0, .int .i64 o_.f2.f1, .int .i64 o_.f2.f2, .int .i64 o_.f2.f3, .int .i64 o_.f2.f4, .int .i64 o_.f2.f5, .int .i64 o_.f2.f6, .string o_.f2.f7, .string o_.f2.f8, .slice A11 o_.f2.f9.length c11, .slice A12 o_.f2.f10.length c12, .slice A13 o_.f3.length c13] 40)
        clear hf
        generalize Dk.paint c wr.heap.size 4 = cLB at *
        generalize wr.alloc (.cells #[.int .i64 o_.f0, .int .i64 o_.f1, .int .i64 o_.f2.f0, .int .i64 o_.f2.f1, .int .i64 o_.f2.f2, .int .i64 o_.f2.f3, .int .i64 o_.f2.f4, .int .i64 o_.f2.f5, .int .i64 o_.f2.f6, .string o_.f2.f7, .string o_.f2.f8, .slice A11 o_.f2.f9.length c11, .slice A12 o_.f2.f10.length c12, .slice A13 o_.f3.length c13] 40) = W4 at *
        generalize wr.heap.size = ob at *
        clear q0 q1 q2 q3 q4 q5 q6 q7 q8 q9 q10 q11 q12 q13
        have hcs := LB.out.blk
        have q0 : W4.cell? ⟨ob, 0, none⟩ = some (.int .i64 o_.f0) := blk_cell hcs 0
        have q1 : W4.cell? ⟨ob, 1, none⟩ = some (.int .i64 o_.f1) := blk_cell hcs 1
        have q2 : W4.cell? ⟨ob, 2, none⟩ = some (.int .i64 o_.f2.f0) := blk_cell hcs 2
        have q3 : W4.cell? ⟨ob, 3, none⟩ = some (.int .i64 o_.f2.f1) := blk_cell hcs 3
        have q4 : W4.cell? ⟨ob, 4, none⟩ = some (.int .i64 o_.f2.f2) := blk_cell hcs 4
        have q5 : W4.cell? ⟨ob, 5, none⟩ = some (.int .i64 o_.f2.f3) := blk_cell hcs 5
        have q6 : W4.cell? ⟨ob, 6, none⟩ = some (.int .i64 o_.f2.f4) := blk_cell hcs 6
        have q7 : W4.cell? ⟨ob, 7, none⟩ = some (.int .i64 o_.f2.f5) := blk_cell hcs 7
        have q8 : W4.cell? ⟨ob, 8, none⟩ = some (.int .i64 o_.f2.f6) := blk_cell hcs 8
        have q9 : W4.cell? ⟨ob, 9, none⟩ = some (.string o_.f2.f7) := blk_cell hcs 9
        have q10 : W4.cell? ⟨ob, 10, none⟩ = some (.string o_.f2.f8) := blk_cell hcs 10
        have q11 : W4.cell? ⟨ob, 11, none⟩ = some (.slice A11 o_.f2.f9.length c11) := blk_cell hcs 11
        have q12 : W4.cell? ⟨ob, 12, none⟩ = some (.slice A12 o_.f2.f10.length c12) := blk_cell hcs 12
        clear hcs
        by_cases hk : o_.f0 = 1
        · have hk1 : (o_.f0 == (1 : Int)) = true := beq_iff_eq.2 hk
          go_upto_region 12 with (go_at_call 15; (with_reducible refine (append_calls HL.out (HQ.out.fit HE.out) HQ.out.bd1 o_.f2 A11 c11 A12 c12 (Kd.C_below H11.out G.out.bel) L11.out (Kd.C_below H12.out G.out.bel) L12.out HZ.out).mono ?_); rintro e w1 ⟨rfl, hf, hl⟩; have G_n := Aside0.mk (G.out.step hf (by decide)); have HD_n := Aside0.mk (dk_keep HD.out hf (by decide)); clear G HD; have G := G_n; have HD := HD_n; clear G_n HD_n; clear HL; have HL := Aside0.mk hl; clear hl hf)
          clear LB; (try clear q0 q1 q2 q3 q4 q5 q6 q7 q8 q9 q10 q11 q12); clear hk hk1
          obtain ⟨R', hq⟩ := HQ.out.append o_.f2
          clear HQ
          have HQ := Aside0.mk hq
          clear hq
          go_wp2
          go_roundw
          case rel => exact ⟨r + 1, _, _, _, _, _, by first | rfl | (rw [hwk]) | go_num, ⟨by have := HLT.out; omega⟩, G, HL, HD, HQ⟩
          case measure =>
            have := HLT.out
            (try rw [hwk])
            show l.length - (intOf (.int .i64 ((r + 1 : Nat) : Int))).toNat < l.length - (intOf (.int .i64 (r : Int))).toNat
            simp only [intOf]; omega
        · have hk1 : (o_.f0 == (1 : Int)) = false := beq_eq_false_iff_ne.2 hk
          go_upto_region 12 with (go_at_call 16; (with_reducible refine (flush_calls HL.out HD.out HQ.out.ok (by decide) (HQ.out.fit HE.out) HQ.out.bd HQ.out.gap.1 HQ.out.gap.2).mono ?_); rintro e w1 ⟨rfl, c1, hf, hl, hd, ho⟩; obtain ⟨f1, f2, f3, f4⟩ := HQ.out.flush HE.out; rw [f1]; rw [f2] at hl; have G_n := Aside0.mk (G.out.step hf (by decide)); clear G; have G := G_n; clear G_n; clear HD HL HQ; have HD := Aside0.mk hd; have HL := Aside0.mk hl; have HQ := Aside0.mk f3; clear hl hd hf ho f1 f2 f3 f4)
          clear LB; (try clear q0 q1 q2 q3 q4 q5 q6 q7 q8 q9 q10 q11 q12); clear hk hk1
          go_wp2
          go_roundw
          case rel => exact ⟨r + 1, _, _, _, _, _, by first | rfl | (rw [hwk]) | go_num, ⟨by have := HLT.out; omega⟩, G, HL, HD, HQ⟩
          case measure =>
            have := HLT.out
            (try rw [hwk])
            show l.length - (intOf (.int .i64 ((r + 1 : Nat) : Int))).toNat < l.length - (intOf (.int .i64 (r : Int))).toNat
            simp only [intOf]; omega
      · obtain rfl : r = l.length := by have := HRL.out; omega
        clear hlt
        have hi := Lv.mod_ok 5 low (by decide) (by decide)
        have hwn : wrap64 (1 + wrap64 ((IntKind.u64.wrap low).tmod 5)) = 1 + wrap64 ((IntKind.u64.wrap low).tmod 5) := by
          generalize wrap64 ((IntKind.u64.wrap low).tmod 5) = z at *
          unfold wrap64; omega
        go_upto_region 14 with (fail)
        (try simp only [hwn])
        clear hwn
        obtain ⟨P, hP⟩ : ∃ P, 1 + wrap64 ((IntKind.u64.wrap low).tmod 5) = P := ⟨_, rfl⟩
        (try rw [hP])
        have HP := Aside0.mk (show 1 ≤ P ∧ P ≤ 16777216 by omega)
        clear hP hi
        have HLA := Aside0.mk (show latestF d 0 (N : Int).toNat < 4294967290 by have := HQ.out.latest HE.out; omega)
        go_upto_region 15 with (go_at_call 19; (with_reducible refine (lopen_calls HD.out HQ.out.ok 0 (N : Int) P (by decide) HNc.out HQ.out.lies HP.out HQ.out.gone HLA.out).mono ?_); rintro e w1 ⟨gl2, m2_, c1, rfl, hf, hl, hd⟩; have G_n := Aside0.mk (G.out.step hf (by decide)); clear G; have G := G_n; clear G_n; clear HD; have HD := Aside0.mk hd; have HL2 := Aside0.mk hl; clear hl hd hf)
        go_upto_region 16 with (go_at_call 19; (with_reducible refine (lopen_calls HD.out HQ.out.ok 0 (N : Int) P (by decide) HNc.out HQ.out.lies HP.out HQ.out.gone HLA.out).mono ?_); rintro e w1 ⟨gl3, m3_, c1, rfl, hf, hl, hd⟩; have G_n := Aside0.mk (G.out.step hf (by decide)); have HL2_n := Aside0.mk (HL2.out.keep hf (by decide)); clear G HL2; have G := G_n; have HL2 := HL2_n; clear G_n HL2_n; clear HD; have HD := Aside0.mk hd; have HL3 := Aside0.mk hl; clear hl hd hf)
        obtain ⟨hfa, hfb⟩ := open_fit d (base := 0) (n := (N : Int)) (low := P) (by decide) HNc.out HP.out HLA.out
        have HF2 := Aside0.mk hfa; have HG2 := Aside0.mk hfb; have HB2 := Aside0.mk (open_bd d 0 (N : Int) P); have HLOW := Aside0.mk (show (openW d 0 (N : Int) P).low = P from rfl)
        clear hfa hfb
        generalize openW d 0 (N : Int) P = W2 at *
        have be1 : (W2.ep == W2.ep) = true := beq_self_eq_true _; have be2 : (W2.op == W2.op) = true := beq_self_eq_true _; have be3 : (roomW W2 == roomW W2) = true := beq_self_eq_true _; have be4 : (P == P) = true := beq_self_eq_true _
        go_upto_region 18 with (fail)
        go_wp2_with (first | (go_at_call 20; (with_reducible refine (scan_calls HL2.out HF2.out HB2.out HG2.out 0).mono ?_); rintro e w1 ⟨v, rfl, hn, hb1⟩; obtain ⟨A_, c_, rfl, hl_, hC_⟩ := Kd.N_reads hn; have G_n := Aside0.mk (G.out.below hb1); have HL2_n := Aside0.mk (HL2.out.below hb1); have HL3_n := Aside0.mk (HL3.out.below hb1); clear G HL2 HL3; have G := G_n; have HL2 := HL2_n; have HL3 := HL3_n; clear G_n HL2_n HL3_n; have HCa := Aside0.mk hC_; have HCal := Aside0.mk hl_; clear hb1 hn hC_ hl_) | (go_at_call 20; (with_reducible refine (scan_calls HL3.out HF2.out HB2.out HG2.out 0).mono ?_); rintro e w1 ⟨v, rfl, hn, hb1⟩; obtain ⟨A_, c_, rfl, hl_, hC_⟩ := Kd.N_reads hn; have G_n := Aside0.mk (G.out.below hb1); have HL2_n := Aside0.mk (HL2.out.below hb1); have HL3_n := Aside0.mk (HL3.out.below hb1); have HCa_n := Aside0.mk (Kd.C_below HCa.out hb1); clear G HL2 HL3 HCa; have G := G_n; have HL2 := HL2_n; have HL3 := HL3_n; have HCa := HCa_n; clear G_n HL2_n HL3_n HCa_n; have HCb := Aside0.mk hC_; have HCbl := Aside0.mk hl_; clear hb1 hn hC_ hl_) | (go_at_call 21; (with_reducible refine (sameall_eq _ _ _ _ _ _ HCa.out HCb.out (scan_ok _ _) (scan_len _ HB2.out HG2.out.2 _)).mono ?_); rintro e w1 ⟨rfl, hb1⟩; clear HCa HCb; have G_n := Aside0.mk (G.out.below hb1); have HL2_n := Aside0.mk (HL2.out.below hb1); have HL3_n := Aside0.mk (HL3.out.below hb1); clear G HL2 HL3; have G := G_n; have HL2 := HL2_n; have HL3 := HL3_n; clear G_n HL2_n HL3_n; clear hb1) | (go_at_call 29; (with_reducible refine (epoch_calls HL2.out HF2.out.ep).mono ?_); rintro e w1 ⟨rfl, hb1⟩; have G_n := Aside0.mk (G.out.below hb1); have HL2_n := Aside0.mk (HL2.out.below hb1); have HL3_n := Aside0.mk (HL3.out.below hb1); clear G HL2 HL3; have G := G_n; have HL2 := HL2_n; have HL3 := HL3_n; clear G_n HL2_n HL3_n; clear hb1) | (go_at_call 29; (with_reducible refine (epoch_calls HL3.out HF2.out.ep).mono ?_); rintro e w1 ⟨rfl, hb1⟩; have G_n := Aside0.mk (G.out.below hb1); have HL2_n := Aside0.mk (HL2.out.below hb1); have HL3_n := Aside0.mk (HL3.out.below hb1); clear G HL2 HL3; have G := G_n; have HL2 := HL2_n; have HL3 := HL3_n; clear G_n HL2_n HL3_n; clear hb1) | (go_at_call 30; (with_reducible refine (next_calls HL2.out).mono ?_); rintro e w1 ⟨rfl, hb1⟩; have G_n := Aside0.mk (G.out.below hb1); have HL2_n := Aside0.mk (HL2.out.below hb1); have HL3_n := Aside0.mk (HL3.out.below hb1); clear G HL2 HL3; have G := G_n; have HL2 := HL2_n; have HL3 := HL3_n; clear G_n HL2_n HL3_n; clear hb1) | (go_at_call 30; (with_reducible refine (next_calls HL3.out).mono ?_); rintro e w1 ⟨rfl, hb1⟩; have G_n := Aside0.mk (G.out.below hb1); have HL2_n := Aside0.mk (HL2.out.below hb1); have HL3_n := Aside0.mk (HL3.out.below hb1); clear G HL2 HL3; have G := G_n; have HL2 := HL2_n; have HL3 := HL3_n; clear G_n HL2_n HL3_n; clear hb1) | (go_at_call 25; (with_reducible refine (room_calls HL2.out HF2.out).mono ?_); rintro e w1 ⟨rfl, hb1⟩; have G_n := Aside0.mk (G.out.below hb1); have HL2_n := Aside0.mk (HL2.out.below hb1); have HL3_n := Aside0.mk (HL3.out.below hb1); clear G HL2 HL3; have G := G_n; have HL2 := HL2_n; have HL3 := HL3_n; clear G_n HL2_n HL3_n; clear hb1) | (go_at_call 25; (with_reducible refine (room_calls HL3.out HF2.out).mono ?_); rintro e w1 ⟨rfl, hb1⟩; have G_n := Aside0.mk (G.out.below hb1); have HL2_n := Aside0.mk (HL2.out.below hb1); have HL3_n := Aside0.mk (HL3.out.below hb1); clear G HL2 HL3; have G := G_n; have HL2 := HL2_n; have HL3 := HL3_n; clear G_n HL2_n HL3_n; clear hb1) | (go_at_call 31; (with_reducible refine (low_calls HL2.out).mono ?_); rintro e w1 ⟨rfl, hb1⟩; rw [HLOW.out]; have G_n := Aside0.mk (G.out.below hb1); have HL2_n := Aside0.mk (HL2.out.below hb1); have HL3_n := Aside0.mk (HL3.out.below hb1); clear G HL2 HL3; have G := G_n; have HL2 := HL2_n; have HL3 := HL3_n; clear G_n HL2_n HL3_n; clear hb1))
        go_ret
        exact ⟨rfl, G.out.bel⟩
open Classical in
noncomputable def careenlaw05_WalAgain.f (a0 : Int) (l1 : List S40) (a2 : Int) : Option Bool := if OkOps l1 then some true else none
theorem careenlaw05_WalAgain.calls (a0 : Int) (A1 : Option Addr) (c1 : Nat) (l1 : List S40) (a2 : Int) (r : Bool) (w : World) (hr1 : Kd.C k40 w A1 l1.length l1) (hc1 : l1.length ≤ c1) (h : careenlaw05_WalAgain.f a0 l1 a2 = some r) :
    Calls Try.prog 7 #[.int .i64 a0, .slice A1 l1.length c1, .int .i64 a2] w fun e w' => e = .returned (.bool r) ∧ Below w.heap.size w w' := by
  unfold careenlaw05_WalAgain.f at h
  by_cases ho : OkOps l1
  · rw [if_pos ho] at h
    obtain rfl := Option.some.inj h
    exact again_walk a0 A1 c1 l1 a2 w hr1 hc1 ho
  · rw [if_neg ho] at h
    cases h
end Go.Proofs.Ytbnglmeljbiglaa.X4
namespace Go.Proofs.Ytbnglmeljbiglaa.X4.RowWalAgain
open Go.ChangeShapes Go.WideShapes Go.ChangeAt Go.RowKit Go.Proofs.Ytbnglmeljbiglaa.Opens Go.Proofs.YtbnglmeljbiglaaW.PrintWords
open Go.ChangeMaps (open_string shut_string)
set_option linter.unusedVariables false
theorem own : ownKnob Try.prog.godebug = none := by kernel_rfl
theorem laidOut : laidOutB Try.prog = true := by kernel_rfl
def W107 (x : S107) : Prop := (Lit.int .i64 x.f0).wf = true ∧ (Lit.int .i64 x.f1).wf = true ∧ (Lit.int .i64 x.f2).wf = true
set_option maxRecDepth 100000 in
theorem opens107 : Opens Try.prog 107 k107 W107 := opens_iso (opens_struct Try.underlying107 (by kernel_rfl) (by kernel_rfl) (opensF_cons (opens_int Try.underlying3) (opensF_cons (opens_int Try.underlying3) (opensF_one (opens_int Try.underlying3))))) (fun x : S107 => (x.f0, x.f1, x.f2)) (fun p => ⟨p.1, p.2.1, p.2.2⟩) (fun _ => rfl)
def W109 (x : S109) : Prop := (Lit.int .i64 x.f0).wf = true ∧ (Lit.int .i64 x.f1).wf = true
set_option maxRecDepth 100000 in
theorem opens109 : Opens Try.prog 109 k109 W109 := opens_iso (opens_struct Try.underlying109 (by kernel_rfl) (by kernel_rfl) (opensF_cons (opens_int Try.underlying3) (opensF_one (opens_int Try.underlying3)))) (fun x : S109 => (x.f0, x.f1)) (fun p => ⟨p.1, p.2⟩) (fun _ => rfl)
def W37 (x : S37) : Prop := (Lit.int .i64 x.f0).wf = true ∧ (Lit.int .i64 x.f1).wf = true ∧ (Lit.int .i64 x.f2).wf = true ∧ (Lit.int .i64 x.f3).wf = true ∧ (Lit.int .i64 x.f4).wf = true ∧ (Lit.int .i64 x.f5).wf = true ∧ (Lit.int .i64 x.f6).wf = true ∧ x.f7.size ≤ 140737488351232 ∧ x.f8.size ≤ 140737488351232 ∧ (x.f9.length ≤ maxLen ∧ x.f9.length * Try.prog.bytesOf 107 ≤ 140737488351232 ∧ ∀ y ∈ x.f9, W107 y) ∧ (x.f10.length ≤ maxLen ∧ x.f10.length * Try.prog.bytesOf 109 ≤ 140737488351232 ∧ ∀ y ∈ x.f10, W109 y)
set_option maxRecDepth 100000 in
theorem opens37 : Opens Try.prog 37 k37 W37 := opens_iso (opens_struct Try.underlying37 (by kernel_rfl) (by kernel_rfl) (opensF_cons (opens_int Try.underlying3) (opensF_cons (opens_int Try.underlying3) (opensF_cons (opens_int Try.underlying3) (opensF_cons (opens_int Try.underlying3) (opensF_cons (opens_int Try.underlying3) (opensF_cons (opens_int Try.underlying3) (opensF_cons (opens_int Try.underlying3) (opensF_cons (opens_string Try.underlying9) (opensF_cons (opens_string Try.underlying9) (opensF_cons (opens_slice Try.underlying34 (by kernel_rfl) opens107) (opensF_one (opens_slice Try.underlying35 (by kernel_rfl) opens109))))))))))))) (fun x : S37 => (x.f0, x.f1, x.f2, x.f3, x.f4, x.f5, x.f6, x.f7, x.f8, x.f9, x.f10)) (fun p => ⟨p.1, p.2.1, p.2.2.1, p.2.2.2.1, p.2.2.2.2.1, p.2.2.2.2.2.1, p.2.2.2.2.2.2.1, p.2.2.2.2.2.2.2.1, p.2.2.2.2.2.2.2.2.1, p.2.2.2.2.2.2.2.2.2.1, p.2.2.2.2.2.2.2.2.2.2⟩) (fun _ => rfl)
def W40 (x : S40) : Prop := (Lit.int .i64 x.f0).wf = true ∧ (Lit.int .i64 x.f1).wf = true ∧ W37 x.f2 ∧ (x.f3.length ≤ maxLen ∧ x.f3.length * Try.prog.bytesOf 5 ≤ 140737488351232 ∧ ∀ y ∈ x.f3, (Lit.int .u8 y).wf = true)
set_option maxRecDepth 100000 in
theorem opens40 : Opens Try.prog 40 k40 W40 := opens_iso (opens_struct Try.underlying40 (by kernel_rfl) (by kernel_rfl) (opensF_cons (opens_int Try.underlying3) (opensF_cons (opens_int Try.underlying3) (opensF_cons opens37 (opensF_one (opens_slice Try.underlying38 (by kernel_rfl) (opens_int Try.underlying5))))))) (fun x : S40 => (x.f0, x.f1, x.f2, x.f3)) (fun p => ⟨p.1, p.2.1, p.2.2.1, p.2.2.2⟩) (fun _ => rfl)
/-- The statement, over plain values. -/
def Pure : Prop := ∀ (x0 : Int) (x1 : List S40) (x2 : Int), (Lit.int .i64 x0).wf = true → (x1.length ≤ maxLen ∧ x1.length * Try.prog.bytesOf 40 ≤ 140737488351232 ∧ ∀ y ∈ x1, W40 y) → (Lit.int .i64 x2).wf = true → ∃ k : Nat, careenlaw05_WalAgain.f x0 x1 x2 = some true
set_option maxRecDepth 100000 in
theorem lifted (PU : Pure) (os : Os) (started : os.Started) (H : Type) (enc : TypeId × Value → H) :
    ReturnsInHanded {} Try.checked os 7 .any (Rows.walAgainSpec.pre6 enc Try.prog Try.f7 Rows.walAgainRow.domain false) (Rows.walAgainSpec.post enc Try.prog Try.f7 false true false false) := by
  refine returnsInHanded_of_change_sized (C := Try.checked) own started (by kernel_rfl) Try.func7
    (ChangeSpec.witness6 (enc := enc) (C := Try.checked) false ⟨#[], #[.int .i64 0, .slice none 0 0, .int .i64 0], []⟩ 8 (by kernel_rfl) (by kernel_rfl) (by kernel_rfl) (by kernel_rfl)) ?_
  intro W base args ds gs before hval0 hW hcnd hsz0 _
  have hsz : (DataW.weightsEach Try.prog (Try.f7.params.toList ++ Rows.walAgainSpec.plain.varTypes Try.prog) (ds ++ gs)).all (· ≤ reachBytes) = true := hsz0
  have hval : ∀ (j : Nat) t v, Try.f7.params[j]? = some t → args[j]? = some v → Value.okWide Try.prog W .any base t v := hval0
  have hW' := hW
  obtain ⟨p, q, hA0, hV, rfl, hfz, hnd⟩ := hW
  have hA : DataW.TrodAll enc Try.prog W 0 (fun _ => true) true Try.f7.params.toList args.toList ds p := hA0
  rw [Try.params7] at hA hval hsz
  obtain ⟨v0, vs0, d0, ds0, p0, q0, hargs, rfl, rfl, h0, r0⟩ := trodAll_cons hA
  obtain ⟨v1, vs1, d1, ds1, p1, q1, rfl, rfl, rfl, h1, r1⟩ := trodAll_cons r0
  obtain ⟨v2, vs2, d2, ds2, p2, q2, rfl, rfl, rfl, h2, r2⟩ := trodAll_cons r1
  obtain ⟨rfl, rfl, rfl⟩ := trodAll_nil r2
  obtain rfl : args = #[v0, v1, v2] := by cases args; simp_all
  obtain ⟨rfl, rfl⟩ := trodVars_none hV
  have kk0 := h0
  have lt0 : ∀ x ∈ p0, x.block < W.heap.size := by obtain ⟨m, hm⟩ := kk0; exact DataW.trod_lt m _ _ _ hm
  obtain ⟨x0, hk0, w0⟩ : ∃ x, (Kd.int .i64).K W x v0.cells.toList ∧ (Lit.int .i64 x).wf = true := by
    obtain ⟨fuel, hf⟩ := h0
    exact (opens_int Try.underlying3) hf (fun n hn => by simpa using List.all_eq_true.1 hsz n (DataW.weights_mem_each (j := 0) (t := 3) (d := d0) rfl rfl n hn))
  obtain ⟨z0, rfl⟩ := okWide_int Try.underlying3 (hval 0 3 v0 rfl rfl)
  obtain rfl : z0 = x0 := by
    have e : [Value.int .i64 z0] = [Value.int .i64 x0] := hk0
    simpa using e
  have kk1 := h1
  have lt1 : ∀ x ∈ p1, x.block < W.heap.size := by obtain ⟨m, hm⟩ := kk1; exact DataW.trod_lt m _ _ _ hm
  obtain ⟨x1, hk1, w1⟩ : ∃ x, (Kd.slice 40 k40).K W x v1.cells.toList ∧ (x.length ≤ maxLen ∧ x.length * Try.prog.bytesOf 40 ≤ 140737488351232 ∧ ∀ y ∈ x, W40 y) := by
    obtain ⟨fuel, hf⟩ := h1
    exact (opens_slice Try.underlying22 (by kernel_rfl) opens40) hf (fun n hn => by simpa using List.all_eq_true.1 hsz n (DataW.weights_mem_each (j := 1) (t := 22) (d := d1) rfl rfl n hn))
  obtain ⟨a1, len1, cap1, rfl⟩ := okWide_slice Try.underlying22 (hval 1 22 v1 rfl rfl)
  obtain ⟨A1, c1, e1, hc1, hr1⟩ := hk1
  obtain ⟨rfl, rfl, rfl⟩ : a1 = A1 ∧ len1 = x1.length ∧ cap1 = c1 := by simpa [Value.cells] using e1
  have kk2 := h2
  have lt2 : ∀ x ∈ p2, x.block < W.heap.size := by obtain ⟨m, hm⟩ := kk2; exact DataW.trod_lt m _ _ _ hm
  obtain ⟨x2, hk2, w2⟩ : ∃ x, (Kd.int .i64).K W x v2.cells.toList ∧ (Lit.int .i64 x).wf = true := by
    obtain ⟨fuel, hf⟩ := h2
    exact (opens_int Try.underlying3) hf (fun n hn => by simpa using List.all_eq_true.1 hsz n (DataW.weights_mem_each (j := 2) (t := 3) (d := d2) rfl rfl n hn))
  obtain ⟨z2, rfl⟩ := okWide_int Try.underlying3 (hval 2 3 v2 rfl rfl)
  obtain rfl : z2 = x2 := by
    have e : [Value.int .i64 z2] = [Value.int .i64 x2] := hk2
    simpa using e
  clear hA0 hval0 hsz0 hsz
  obtain ⟨k, h⟩ := PU z0 x1 z2 w0 w1 w2
  refine (careenlaw05_WalAgain.calls (a0 := z0) (l1 := x1) (a2 := z2) (r := true) (w := W) (hr1 := hr1) (hc1 := hc1) (h := h)).mono fun e W' ⟨he, bel0⟩ => ?_
  have bel : Below W.heap.size W W' := bel0
  subst he
  exact ⟨_, rfl, _, _, _, [], _, [], hW', trodAll_mk1 (shut_bool Try.underlying4 _), (trodAll_cons_mk (Below.trod laidOut (by kernel_rfl) (of_decide_eq_true (by kernel_rfl)) kk0 bel lt0) (trodAll_cons_mk (Below.trod laidOut (by kernel_rfl) (of_decide_eq_true (by kernel_rfl)) kk1 bel lt1) (trodAll_cons_mk (Below.trod laidOut (by kernel_rfl) (of_decide_eq_true (by kernel_rfl)) kk2 bel lt2) trodAll_mk0))), rfl, bel.frame _, fun h => by cases h⟩
/-- The row follows from the plain statement. -/
theorem holds (PU : Pure) : Rows.WalAgainSaid :=
  OpenClaim.holds_of_wide 7 Try.f7 rfl rfl rfl rfl rfl rfl rfl ⟨rfl, rfl, rfl, rfl, rfl⟩ rfl rfl rfl rfl rfl (by kernel_rfl) Try.func7 (by kernel_rfl)
    (of_decide_eq_true (by kernel_rfl)) (by unfold Func.isWrapper; first | (rw [if_pos (by decide +kernel)]; kernel_rfl) | (rw [if_neg (by decide +kernel)]; exact ⟨rfl, rfl⟩))
    (fun os started H enc _ => lifted PU os started H enc)
end Go.Proofs.Ytbnglmeljbiglaa.X4.RowWalAgain
