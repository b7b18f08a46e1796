import Derived.Deep.QuietTactic
import Derived.BigQuiet
import Derived.Defers
import Derived.WalkMore
import Derived.Test.YtcelfhoomhmioaaPBZ0
import Derived.Test.YtcelfhoomhmioaaPBZ1
import Derived.Test.YtcelfhoomhmioaaPBZ2
import Derived.Test.YtcelfhoomhmioaaPBZ3
import Derived.Test.YtcelfhoomhmioaaPBZ4
import Derived.Test.YtcelfhoomhmioaaPBZ5
import Derived.Test.YtcelfhoomhmioaaPBZ6
import Derived.Test.YtcelfhoomhmioaaPBZ7
set_option maxRecDepth 8192
namespace Go.Proofs.Ytcelfhoomhmioaa.Rp
open Go Go.RowKit Go.Proofs.YtcelfhoomhmioaaW.PrintWords Go.Proofs.Ytcelfhoomhmioaa.X4
set_option linter.unusedSimpArgs false
set_option linter.unusedVariables false
abbrev St := ByteArray × Bool
end Go.Proofs.Ytcelfhoomhmioaa.Rp
set_option maxRecDepth 8192
namespace Go.Proofs.Ytcelfhoomhmioaa.Pt
open Go Go.RowKit Go.Proofs.YtcelfhoomhmioaaW.PrintWords Go.Proofs.Ytcelfhoomhmioaa.X4 Go.Proofs.Ytcelfhoomhmioaa.Rp Go.Proofs.Ytcelfhoomhmioaa.Wr
set_option linter.unusedVariables false
set_option linter.unusedSimpArgs false
def B (l : List UInt8) : ByteArray := ⟨l.toArray⟩
theorem fits {α : Type} {n : Nat} {x y : Option α} (h : n ≤ 1000000) : (if n ≤ 9223372036854775807 then x else y) = x := if_pos (by omega)
end Go.Proofs.Ytcelfhoomhmioaa.Pt
namespace Go.Proofs.Ytcelfhoomhmioaa.Ptb
end Go.Proofs.Ytcelfhoomhmioaa.Ptb
set_option maxRecDepth 8192
namespace Go.Proofs.Ytcelfhoomhmioaa.Wl
open Go.Proofs.Ytcelfhoomhmioaa.X4 Go.Proofs.Ytcelfhoomhmioaa.Pt Go.Proofs.Ytcelfhoomhmioaa.Ptb Go Go.RowKit Go.ChangeMaps Go.Proofs.Ytcelfhoomhmioaa.Arr Go.Proofs.Ytcelfhoomhmioaa.Mp Go.Proofs.Ytcelfhoomhmioaa.Ow Go.Proofs.Ytcelfhoomhmioaa.Dk Go.Proofs.Ytcelfhoomhmioaa.Fr Go.Proofs.YtcelfhoomhmioaaW.PrintWords Go.Proofs.YtcelfhoomhmioaaW.PrintLast Go.Proofs.YtcelfhoomhmioaaW.PrintMore
set_option linter.unusedVariables false
set_option linter.unusedSimpArgs false
theorem body_le (s : ByteArray) : (X12.unpackF s).2.2.1.size ≤ 112 := by
  unfold X12.unpackF
  split
  · rename_i h
    have h1 := X12.cutB_size s h.1 h.2.1
    have h2 := h.2.1
    show (X12.cutB s).size ≤ 112
    omega
  · show (0 : Nat) ≤ 112; omega
section
variable {w : World} {c : Nat → Nat} {gl m g N : Nat} {W : WS} {d : DS}
end
end Go.Proofs.Ytcelfhoomhmioaa.Wl
set_option maxRecDepth 8192
namespace Go.Proofs.Ytcelfhoomhmioaa.Wl
open Go.Proofs.Ytcelfhoomhmioaa.Rgn
open Go.Proofs.Ytcelfhoomhmioaa.X4 Go.Proofs.Ytcelfhoomhmioaa.Pt Go.Proofs.Ytcelfhoomhmioaa.Ptb Go Go.RowKit Go.ChangeMaps Go.Proofs.Ytcelfhoomhmioaa.Arr Go.Proofs.Ytcelfhoomhmioaa.Mp Go.Proofs.Ytcelfhoomhmioaa.Ow Go.Proofs.Ytcelfhoomhmioaa.Dk Go.Proofs.Ytcelfhoomhmioaa.Fr Go.Proofs.YtcelfhoomhmioaaW.PrintWords Go.Proofs.YtcelfhoomhmioaaW.PrintLast Go.Proofs.YtcelfhoomhmioaaW.PrintMore
set_option linter.unusedVariables false
set_option linter.unusedSimpArgs false
section
variable {w : World} {c : Nat → Nat} {gl m g N : Nat} {W : WS}
theorem append_nil (v : Value) (hv : ∃ (r : S39) (A9 : Option Addr) (c9 : Nat) (A10 : Option Addr) (c10 : Nat), v = .agg #[.int .i64 r.f0, .int .i64 r.f1, .int .i64 r.f2, .int .i64 r.f3, .int .i64 r.f4, .int .i64 r.f5, .int .i64 r.f6, .string r.f7, .string r.f8, .slice A9 r.f9.length c9, .slice A10 r.f10.length c10]) (w : World) : Calls Try.prog 22 #[.pointer none, v] w fun e w' => e = .returned (.tuple #[.int .i64 0, .int .i64 10]) ∧ Below w.heap.size w w' := by
  obtain ⟨r, A9, c9, A10, c10, rfl⟩ := hv
  have HB := Aside0.mk ((Below.refl w.heap.size w).alloc (Nat.le_refl _) (.cells #[.int .i64 r.f0, .int .i64 r.f1, .int .i64 r.f2, .int .i64 r.f3, .int .i64 r.f4, .int .i64 r.f5, .int .i64 r.f6, .string r.f7, .string r.f8, .slice A9 r.f9.length c9, .slice A10 r.f10.length c10] 39))
  go_enter Try.func22, Try.ntmps22
  go_wp2
  go_ret2
  exact ⟨rfl, HB.out⟩
end
end Go.Proofs.Ytcelfhoomhmioaa.Wl
set_option maxRecDepth 8192
namespace Go.Proofs.Ytcelfhoomhmioaa.Wl
open Go.Proofs.Ytcelfhoomhmioaa.Rgn
open Go Go.RowKit Go.ChangeMaps Go.Proofs.Ytcelfhoomhmioaa.Arr Go.Proofs.Ytcelfhoomhmioaa.Mp Go.Proofs.Ytcelfhoomhmioaa.Ow Go.Proofs.Ytcelfhoomhmioaa.Dk Go.Proofs.Ytcelfhoomhmioaa.Fr Go.Proofs.YtcelfhoomhmioaaW.PrintWords Go.Proofs.YtcelfhoomhmioaaW.PrintLast Go.Proofs.YtcelfhoomhmioaaW.PrintMore
set_option linter.unusedVariables false
set_option linter.unusedSimpArgs false
section
variable {w : World} {c : Nat → Nat} {gl m g N : Nat} {W : WS} {d : DS}
theorem dwrite_o (h : DK w (Col c 1) g d) (ho : OkN N d) (i : Int) (s : ByteArray) : Calls Try.prog 56 #[.pointer (some ⟨g, 0, none⟩), .int .i64 i, .string s] w fun x w' => x = .returned (.int .i64 (writeE d i s)) ∧ ∃ c', Fr [1] w c w' c' ∧ DK w' (Col c' 1) g (writeD d i s) := by
  refine (write_calls d g i s (Col (Dk.paint c w.heap.size 1) 1) w (top_paint c w 1) (h.mono fun k hk e => (paint_old hk).trans e) ho.ok).mono ?_
  rintro x w' ⟨rfl, hk, hf⟩
  exact ⟨rfl, _, fr_disk hf, hk⟩
theorem dsync_o (h : DK w (Col c 1) g d) (ho : OkN N d) : Calls Try.prog 58 #[.pointer (some ⟨g, 0, none⟩)] w fun x w' => x = .returned (.int .i64 (syncE d)) ∧ ∃ c', Fr [1] w c w' c' ∧ DK w' (Col c' 1) g (syncD d) := by
  refine (sync_calls d g (Col (Dk.paint c w.heap.size 1) 1) w (top_paint c w 1) (h.mono fun k hk e => (paint_old hk).trans e) ho.ok).mono ?_
  rintro x w' ⟨rfl, hk, hf⟩
  exact ⟨rfl, _, fr_disk hf, hk⟩
/-- The bytes of a sector of the log. -/
def secW (W : WS) (i : Int) : ByteArray := (X12.packI W.ep i (bdy W i)).1
/-- The writes of a Flush: the error, the next sector, the disk. -/
def flushL (W : WS) : Nat → Int → DS → Int × Int × DS
  | 0, i, d => (0, i, d)
  | k + 1, i, d => if i ≤ W.op ∧ bdy W i ≠ ⟨#[]⟩ then (if writeE d (placeW W i) (secW W i) ≠ 0 then (writeE d (placeW W i) (secW W i), i, writeD d (placeW W i) (secW W i)) else flushL W k (i + 1) (writeD d (placeW W i) (secW W i))) else (0, i, d)
def flushR (W : WS) (d : DS) : Int × Int × DS := flushL W (W.op + 1 - W.first).toNat W.first d
/-- What Flush does: the error, the log, the disk. -/
def flushW (W : WS) (d : DS) : Int × WS × DS :=
  if (flushR W d).1 ≠ 0 then ((flushR W d).1, W, (flushR W d).2.2)
  else if (flushR W d).2.1 = W.first then (0, W, (flushR W d).2.2)
  else if syncE (flushR W d).2.2 ≠ 0 then (syncE (flushR W d).2.2, W, syncD (flushR W d).2.2)
  else (0, { W with first := (flushR W d).2.1, op := (flushR W d).2.1 }, syncD (flushR W d).2.2)
theorem pack_fine {e i : Int} {b : ByteArray} (he : 0 ≤ e ∧ e < 4294967296) (hi : 0 ≤ i ∧ i < 4294967296) (hb : b.size ≤ 112) : X12.packI e i b = ((X12.packI e i b).1, 0) := by
  rw [← (X12.packI_bl e i b he hi hb).2]
set_option maxHeartbeats 16000000 in
theorem flush_calls (h : LO w c gl m g W) (hd : DK w (Col c 1) g d) (ho : OkN N d) (hN : N ≤ 1000) (F : Fit W) (hbd : ∀ i, (bdy W i).size ≤ 112) (hop : W.op ≤ 100000000) (hgap : W.first ≤ W.op + 1 ∧ W.op - W.first ≤ 1000) :
    Calls Try.prog 45 #[.pointer (some ⟨gl, 0, none⟩)] w fun e w' => e = .returned (.int .i64 (flushW W d).1) ∧ ∃ c', Fr [1, 3] w c w' c' ∧ LO w' c' gl m g (flushW W d).2.1 ∧ DK w' (Col c' 1) g (flushW W d).2.2 ∧ OkN (N + 1100) (flushW W d).2.2 := by
  have HL := Aside0.mk h; have HD := Aside0.mk hd; have HO := Aside0.mk ho; have HNN := Aside0.mk hN; have HF := Aside0.mk F; have HBD := Aside0.mk hbd; have HOP := Aside0.mk hop; have HGP := Aside0.mk hgap
  have FR := Aside0.mk (Fr.refl [1] w c)
  have c4 := h.c4
  clear h hd ho hN F hbd hop hgap
  obtain ⟨Re, Rn, Rd, hR⟩ : ∃ a b e, flushR W d = (a, b, e) := ⟨_, _, _, rfl⟩
  have HR := Aside0.mk hR
  have HRL := Aside0.mk (show flushL W (W.op + 1 - W.first).toNat W.first d = (Re, Rn, Rd) from hR)
  clear hR
  have HK0 := Aside0.mk (show (((W.op + 1 - W.first).toNat : Nat) : Int) = W.op + 1 - W.first by have := HGP.out; omega)
  go_enter Try.func45, Try.ntmps45
  go_upto_region 4 with (fail)
  clear c4
  go_loopw [3] (fun nv wr => ∃ (j k : Nat) (dk : DS) (c' : Nat → Nat), nv = .int .i64 (W.first + j) ∧ Aside0 (j + k = (W.op + 1 - W.first).toNat) ∧ Aside0 (LO wr c' gl m g W) ∧ Aside0 (DK wr (Col c' 1) g dk) ∧ Aside0 (Fr [1] w c wr c') ∧ Aside0 (OkN (N + j) dk) ∧ Aside0 (flushL W k (W.first + j) dk = (Re, Rn, Rd))) (fun nv _ => (W.op + 1).toNat - (intOf nv).toNat)
  case atStart => exact ⟨0, (W.op + 1 - W.first).toNat, d, c, by rw [show W.first + ((0 : Nat) : Int) = W.first by omega], ⟨by omega⟩, HL, HD, FR, ⟨HO.out⟩, ⟨by rw [show W.first + ((0 : Nat) : Int) = W.first by omega]; exact HRL.out⟩⟩
  case round =>
    clear HL HD FR HO HRL
    obtain ⟨j, k, dk, c1, rfl, JK, HL, HD, FR, HO, HRL⟩ := hrel
    have HI := Aside0.mk (show 0 ≤ W.first + (j : Int) ∧ W.first + (j : Int) ≤ W.op + 1 by have := HF.out.first; have := JK.out; have := HK0.out; omega)
    have c5 := HL.out.c5; have c7 := HL.out.c7
    have hl := run_lookup0 HL.out.map (W.first + j)
    obtain ⟨i, hi⟩ : ∃ i : Int, i = W.first + (j : Int) := ⟨_, rfl⟩
    rw [← hi] at HI HRL hl ⊢
    have HIJ := Aside0.mk hi
    clear hi
    obtain ⟨b, hb⟩ : ∃ b, b = bdy W i := ⟨_, rfl⟩
    have HBI := Aside0.mk hb
    rw [show (W.f i).getD ⟨#[]⟩ = b from hb.symm] at hl
    clear hb
    by_cases hgo : i ≤ W.op ∧ b ≠ ⟨#[]⟩
    · obtain ⟨h1, h2⟩ := hgo
      have HLE := Aside0.mk h1; have HNE := Aside0.mk h2
      have t0 : b.toList.isEmpty = false := by rw [empty_iff, decide_eq_false h2]
      obtain ⟨k, rfl⟩ : ∃ q, k = q + 1 := ⟨k - 1, by have := JK.out; have := HK0.out; have := HIJ.out; omega⟩
      clear h2
      go_upto_region 6 with (fail)
      have HL1 := Aside0.mk HL.out.drew; have HD1 := Aside0.mk HD.out.drew; have FR1 := Aside0.mk (FR.out.trans (fr_drew [1] wr c1))
      clear HL HD FR c5 c7 hl h1
      have c6 := HL1.out.c6; have c7 := HL1.out.c7
      have HWI := Aside0.mk (show IntKind.u32.wrap i = i by rw [IntKind.wrap_u32]; exact Int.emod_eq_of_lt HI.out.1 (by have := HLE.out; have := HOP.out; omega))
      refine start_ (n := 19) (S := fun w' => w'.cell? ⟨gl, 6, none⟩ = some (.int .u32 W.ep) ∧ w'.cell? ⟨gl, 7, none⟩ = some (.map (some m))) (ds := []) #[false, false, false, false, false, false, false, false, false, false, false, false, false, false, false, false, false, false, false] (by kernel_rfl) rfl rfl ⟨c6, c7⟩ (fun hHeld => ?_)
      refine rgp 0 31 ?_
      refine rgp 1 32 ?_
      refine rgp 2 33 ?_
      refine rgp 4 35 ?_
      refine rgp 5 36 ?_
      refine rgp 6 37 ?_
      refine rgp 7 38 ?_
      refine rgp 8 39 ?_
      refine rgp 10 41 ?_
      refine rgt 3 34 hHeld ?_
      refine rgt 9 40 hHeld ?_
      refine one_ (i := 11) (N := some 42) #[true, true, true, true, true, true, true, true, true, true, true, true, false, false, false, false, false, false, false] rfl rfl (by kernel_rfl) (by decide) (fun K hK => ?_)
      generalize wr.drew = X0_ at *
      have hl := run_lookup0 HL1.out.map i
      rw [show (W.f i).getD ⟨#[]⟩ = b from HBI.out.symm] at hl
      refine value_ (w1 := ?_) (v := ?_) (by kernel_rfl) rfl ?_ ?_
      rotate_left 2
      · go_simp
        constructor
        · rfl
        · rfl
      refine hK _ _ hHeld (fun hHeld => ?_)
      clear hK K hl
      refine norm_ (a' := ?_) ?_ ?_
      rotate_left
      · show Act.put _ (some 42) _ = _
        simp only [Act.put, List.setIfInBounds_toArray, List.set_cons_zero, List.set_cons_succ, i64_w, i32_w]
        rfl
      refine rgp 12 43 ?_
      refine one_ (i := 13) (N := some 44) #[true, true, true, true, true, true, true, true, true, true, true, true, true, true, false, false, false, false, false] rfl rfl (by kernel_rfl) (by decide) (fun K hK => ?_)
      refine goes_ Try.func55 (by kernel_rfl) rfl #[.agg #[.int .u32 W.ep, .int .u32 (IntKind.u32.wrap i), .string b]] (by rfl) rfl rfl (by (try simp only [List.map_toArray, List.map_cons, List.map_nil]); first | done | rfl) ?_
      rw [HWI.out]
      refine (X12.pack_calls W.ep i b HF.out.ep ⟨HI.out.1, by have := HLE.out; have := HOP.out; omega⟩ _).mono ?_
      rintro e v1_ ⟨rfl, hb1⟩
      rw [pack_fine HF.out.ep ⟨HI.out.1, by have := HLE.out; have := HOP.out; omega⟩ (by rw [HBI.out]; exact HBD.out i)]
      refine ⟨_, rfl, ?_⟩
      have HL2 := Aside0.mk (HL1.out.below hb1); have HD2 := Aside0.mk (HD1.out.below hb1); have FR2 := Aside0.mk (FR1.out.trans (Fr.of_below (M := [1]) hb1))
      clear HL1 HD1 FR1 hb1
      refine hK _ _ ⟨HL2.out.c6, HL2.out.c7⟩ (fun hHeld => ?_)
      clear hK K
      refine norm_ (a' := ?_) ?_ ?_
      rotate_left
      · show Act.put _ (some 44) _ = _
        simp only [Act.put, List.setIfInBounds_toArray, List.set_cons_zero, List.set_cons_succ, i64_w, i32_w]
        rfl
      refine rgp 14 30 ?_
      refine rgp 15 45 ?_
      refine rgp 16 46 ?_
      refine rgp 17 4 ?_
      refine rgp 18 5 ?_
      refine done_ (by kernel_rfl) ?_
      clear hHeld c6 c7
      have HSW := Aside0.mk (show (X12.packI W.ep i b).1 = secW W i by unfold secW; rw [HBI.out])
      simp only [HSW.out]
      have hff := HRL.out
      unfold flushL at hff
      rw [if_pos ⟨HLE.out, by rw [← HBI.out]; exact HNE.out⟩] at hff
      generalize secW W i = s at *
      go_upto_region 8 with (fail)
      have HL3 := Aside0.mk HL2.out.drew; have HD3 := Aside0.mk HD2.out.drew; have FR3 := Aside0.mk (FR2.out.trans (fr_drew [1] v1_ c1))
      clear HL2 HD2 FR2
      have c0 := HL3.out.c0
      have HFF := Aside0.mk hff
      clear hff
      refine start_ (n := 10) (S := fun w' => w'.cell? ⟨gl, 0, none⟩ = some (.pointer (some ⟨g, 0, none⟩))) (ds := [8]) #[false, false, false, false, false, false, false, false, false, false] (by kernel_rfl) rfl rfl c0 (fun hHeld => ?_)
      refine rgp 0 49 ?_
      refine rgp 1 50 ?_
      refine rgp 2 51 ?_
      refine rgp 4 53 ?_
      refine rgp 5 54 ?_
      refine rgp 7 56 ?_
      refine rgt 3 52 hHeld ?_
      refine one_ (i := 6) (N := some 55) #[true, true, true, true, true, true, true, true, false, false] rfl rfl (by kernel_rfl) (by decide) (fun K hK => ?_)
      generalize v1_.drew = X1_ at *
      refine goes_ Try.func57 (by kernel_rfl) rfl #[.pointer (some ⟨gl, 0, none⟩), .int .i64 i] (by rfl) rfl rfl (by (try simp only [List.map_toArray, List.map_cons, List.map_nil]); first | done | rfl) ?_
      refine (place_calls HL3.out HF.out i HI.out.1).mono ?_
      rintro e v1_y ⟨rfl, hb1⟩
      refine ⟨_, rfl, ?_⟩
      have HL4 := Aside0.mk (HL3.out.below hb1); have HD4 := Aside0.mk (HD3.out.below hb1); have FR4 := Aside0.mk (FR3.out.trans (Fr.of_below (M := [1]) hb1))
      clear HL3 HD3 FR3 hb1
      refine hK _ _ HL4.out.c0 (fun hHeld => ?_)
      clear hK K
      refine norm_ (a' := ?_) ?_ ?_
      rotate_left
      · show Act.put _ (some 55) _ = _
        simp only [Act.put, List.setIfInBounds_toArray, List.set_cons_zero, List.set_cons_succ, i64_w, i32_w]
        rfl
      refine last_ (i := 8) (N := some 57) #[true, true, true, true, true, true, true, true, true, false] rfl rfl (by kernel_rfl) (by decide) (fun K hK => ?_)
      refine goes_ Try.func56 (by kernel_rfl) rfl #[.pointer (some ⟨g, 0, none⟩), .int .i64 (placeW W i), .string s] (by rfl) rfl rfl (by (try simp only [List.map_toArray, List.map_cons, List.map_nil]); first | done | rfl) ?_
      refine (dwrite_o HD4.out HO.out (placeW W i) s).mono ?_
      rintro e v9_ ⟨rfl, c2, hf, hd⟩
      refine ⟨_, rfl, ?_⟩
      have HL5 := Aside0.mk (HL4.out.keep hf (by decide)); have HD5 := Aside0.mk hd; have FR5 := Aside0.mk (FR4.out.trans hf)
      clear HL4 HD4 FR4 hf hd
      refine hK _ _ ?_
      clear hK K
      refine norm_ (a' := ?_) ?_ ?_
      rotate_left
      · show Act.put _ (some 57) _ = _
        simp only [Act.put, List.setIfInBounds_toArray, List.set_cons_zero, List.set_cons_succ, i64_w, i32_w]
        rfl
      refine rgp 9 5 ?_
      refine done_ (by kernel_rfl) ?_
      clear hHeld c0
      (try simp only [Exit.inBlock, Exit.then])
      have hok := ok_write (i := placeW W i) (s := s) HO.out (by have := HNN.out; have := JK.out; have := HK0.out; have := HGP.out; omega)
      have HO5 := Aside0.mk hok; clear hok HO
      generalize hwe : writeE dk (placeW W i) s = we at *
      generalize writeD dk (placeW W i) s = wd at *
      clear hwe
      by_cases he : we = 0
      · have e0 : (we != 0) = false := by simpa using he
        have e1 : (we == 0) = true := by simpa using he
        have HFF2 := Aside0.mk (show flushL W k (i + 1) wd = (Re, Rn, Rd) by have := HFF.out; rw [if_neg (fun h => h he)] at this; exact this)
        have hwk : wrap64 (i + 1) = i + 1 := by have := HLE.out; have := HOP.out; have := HI.out; unfold wrap64; omega
        clear he
        go_wp2
        go_roundw
        case rel => exact ⟨j + 1, k, wd, c2, by first | (rw [HIJ.out]; congr 1; omega) | (rw [hwk, HIJ.out]; congr 1; omega), ⟨by have := JK.out; omega⟩, HL5, HD5, FR5, ⟨HO5.out⟩, ⟨by rw [show W.first + ((j + 1 : Nat) : Int) = i + 1 by rw [HIJ.out]; omega]; exact HFF2.out⟩⟩
        case measure =>
          have := HLE.out; have := HI.out
          (try rw [hwk])
          simp only [intOf]; omega
      · have e0 : (we != 0) = true := by simpa using he
        have e1 : (we == 0) = false := by simpa using he
        have HQ := Aside0.mk (show (we, i, wd) = (Re, Rn, Rd) by have := HFF.out; rw [if_pos he] at this; exact this)
        have HWE := Aside0.mk he
        clear he
        go_wp2
        go_ret
        have hq := HQ.out
        have hfw : flushW W d = (we, W, wd) := by
          unfold flushW
          rw [HR.out, ← hq]
          rw [if_pos HWE.out]
        rw [hfw]
        exact ⟨rfl, c2, FR5.out.mono (by decide), HL5.out, HD5.out, HO5.out.mono (by have := JK.out; have := HK0.out; have := HGP.out; omega)⟩
    · have HQ := Aside0.mk (show (0, i, dk) = (Re, Rn, Rd) by
        have := HRL.out
        cases k with
        | zero => exact this
        | succ k => unfold flushL at this; rw [if_neg (by rw [← HBI.out]; exact hgo)] at this; exact this)
      have HLO := Aside0.mk HL.out
      have hcase : (i ≤ W.op ∧ b.toList.isEmpty = true) ∨ ¬ i ≤ W.op := by
        by_cases h : i ≤ W.op
        · refine .inl ⟨h, ?_⟩
          rw [empty_iff, decide_eq_true_iff]
          exact Classical.byContradiction fun h2 => hgo ⟨h, h2⟩
        · exact .inr h
      clear hgo
      have c4 := HL.out.c4; have c0 := HL.out.c0
      by_cases hfi : i = W.first
      · have e0 : (i == W.first) = true := beq_iff_eq.2 hfi
        have HFW := Aside0.mk (show flushW W d = (0, W, dk) by
          unfold flushW
          rw [HR.out, ← HQ.out]
          rw [if_neg (fun h => h rfl), if_pos hfi])
        clear hfi
        rcases hcase with ⟨t1, t2⟩ | t1
        all_goals
          go_wp2
          go_ret
          rw [HFW.out]
          exact ⟨rfl, c1, FR.out.mono (by decide), HL.out, HD.out, HO.out.mono (by have := JK.out; have := HK0.out; have := HGP.out; omega)⟩
      · have e0 : (i == W.first) = false := beq_eq_false_iff_ne.2 hfi
        have HFW := Aside0.mk (show flushW W d = if syncE dk ≠ 0 then (syncE dk, W, syncD dk) else (0, { W with first := i, op := i }, syncD dk) by
          unfold flushW
          rw [HR.out, ← HQ.out]
          rw [if_neg (fun h => h rfl), if_neg hfi])
        clear hfi
        have HOS := Aside0.mk (ok_sync HO.out)
        generalize hse : syncE dk = se at *
        generalize hsd : syncD dk = sd at *
        by_cases he : se = 0
        · have e1 : (se != 0) = false := by simpa using he
          have HFX := Aside0.mk (show flushW W d = (0, { W with first := i, op := i }, sd) by rw [HFW.out, if_neg (fun h => h he)])
          clear he
          rcases hcase with ⟨t1, t2⟩ | t1
          all_goals
            have hsy := dsync_o HD.out HO.out
            rw [hse, hsd] at hsy
            have HSY := Aside0.mk hsy; clear hsy
            go_upto_region 14 with (go_at_call 58; (with_reducible refine HSY.out.mono ?_); rintro e w1 ⟨rfl, c2, hf, hd⟩; have HL5 := Aside0.mk (HL.out.keep hf (by decide)); have HD5 := Aside0.mk hd; have FR5 := Aside0.mk (FR.out.trans hf); clear hf hd)
            clear c0 c4 c5 c7 hl
            have f4 := HL5.out.fz 4; have f5 := HL5.out.fz 5; have c4 := HL5.out.c4; have c5 := HL5.out.c5
            have s1 := HL5.out.set 4 (.int .i64 i) (W' := { W with first := i }) rfl rfl
            have c5b := s1.1.c5; have f5b := s1.1.fz 5
            have s2 := s1.1.set 5 (.int .i64 i) (W' := { W with first := i, op := i }) rfl rfl
            have HL6 := Aside0.mk s2.1; have HD6 := Aside0.mk (dk_keep HD5.out (s1.2.trans s2.2) (by decide)); have FR6 := Aside0.mk ((FR5.out.mono (M2 := [1, 3]) (by decide)).trans ((s1.2.trans s2.2).mono (by decide)))
            clear s1 s2
            go_wp2
            go_ret
            rw [HFX.out]
            exact ⟨rfl, c2, FR6.out, HL6.out, HD6.out, HOS.out.mono (by have := JK.out; have := HK0.out; have := HGP.out; omega)⟩
        · have e1 : (se != 0) = true := by simpa using he
          have HFX := Aside0.mk (show flushW W d = (se, W, sd) by rw [HFW.out, if_pos he])
          clear he
          rcases hcase with ⟨t1, t2⟩ | t1
          all_goals
            have hsy := dsync_o HD.out HO.out
            rw [hse, hsd] at hsy
            have HSY := Aside0.mk hsy; clear hsy
            go_upto_region 14 with (go_at_call 58; (with_reducible refine HSY.out.mono ?_); rintro e w1 ⟨rfl, c2, hf, hd⟩; have HL5 := Aside0.mk (HL.out.keep hf (by decide)); have HD5 := Aside0.mk hd; have FR5 := Aside0.mk (FR.out.trans hf); clear hf hd)
            clear c0 c4 c5 c7 hl
            go_wp2
            go_ret
            rw [HFX.out]
            exact ⟨rfl, c2, FR5.out.mono (by decide), HL5.out, HD5.out, HOS.out.mono (by have := JK.out; have := HK0.out; have := HGP.out; omega)⟩
end
end Go.Proofs.Ytcelfhoomhmioaa.Wl
set_option maxRecDepth 8192
namespace Go.Proofs.Ytcelfhoomhmioaa.Wl
open Go.Proofs.Ytcelfhoomhmioaa.X4 Go.Proofs.Ytcelfhoomhmioaa.Pt Go.Proofs.Ytcelfhoomhmioaa.Ptb Go.Proofs.Ytcelfhoomhmioaa.Rp Go.Proofs.Ytcelfhoomhmioaa.Cr Go Go.RowKit Go.ChangeMaps Go.Proofs.Ytcelfhoomhmioaa.Arr Go.Proofs.Ytcelfhoomhmioaa.Mp Go.Proofs.Ytcelfhoomhmioaa.Ow Go.Proofs.Ytcelfhoomhmioaa.Dk Go.Proofs.Ytcelfhoomhmioaa.Fr Go.Proofs.YtcelfhoomhmioaaW.PrintWords
set_option linter.unusedVariables false
set_option linter.unusedSimpArgs false
/-- The first sector without a record. -/
def nxL (W : WS) : Int := if bdy W W.op = ⟨#[]⟩ then W.op else W.op + 1
/-- The log behind a Flush. -/
def doneL (W : WS) : WS := { W with first := nxL W, op := nxL W }
theorem nxL_le (W : WS) : W.op ≤ nxL W ∧ nxL W ≤ W.op + 1 := by unfold nxL; split <;> omega
structure Lg (b n E : Int) (W : WS) (d : DS) : Prop where
  mid : Mid d.safe [] d
  fuse : d.fuse = -1
  ep : 1 ≤ W.ep ∧ W.ep ≤ E
  nn : W.n = n
  n8 : 8 ≤ n ∧ n ≤ 64
  base : W.base = b
  lo : 0 ≤ b ∧ b ≤ 900
  len : d.safe.length ≤ 512
  fits : b + n ≤ d.safe.length
  bd : ∀ i, (bdy W i).size ≤ 112
  hi : ∀ i, W.op < i → bdy W i = ⟨#[]⟩
  full : ∀ i, W.first ≤ i → i < W.op → bdy W i ≠ ⟨#[]⟩
  ord : W.low = 1 ∧ 1 ≤ W.first ∧ W.first ≤ W.op
  nx : nxL W ≤ n + 1
theorem sec_size' {W : WS} {i : Int} (he : 0 ≤ W.ep ∧ W.ep < 4294967296) (hi : 0 ≤ i ∧ i < 4294967296) (hb : (bdy W i).size ≤ 112) : (secW W i).size = 128 := by
  unfold secW
  rw [← X12.bl_len, (X12.packI_bl W.ep i (bdy W i) he hi hb).1, Slab.secL_len _ _ _ (by rw [X12.bl_len]; exact hb)]
theorem last_none {q : Int} : ∀ (R : List (Int × ByteArray)), (∀ x ∈ R, x.1 ≠ q) → lastOf R q = none := by
  have gen : ∀ (R : List (Int × ByteArray)), (∀ x ∈ R, x.1 ≠ q) → R.foldl (fun o p => if q = p.1 then some p.2 else o) (none : Option ByteArray) = none := by
    intro R
    induction R with
    | nil => intro _; rfl
    | cons x t ih =>
      intro h
      rw [List.foldl_cons, if_neg (fun e => h x (List.mem_cons_self ..) e.symm)]
      exact ih (fun y hy => h y (List.mem_cons_of_mem _ hy))
  exact gen
section
variable {b n E : Int} {W : WS} {d : DS}
theorem Lg.ok (h : Lg b n E W d) : OkN 0 d := by
  have hr : d.row = [] := h.mid.2.1
  refine ⟨⟨by rw [hr]; decide, by rw [h.fuse]; omega, by rw [h.fuse]; omega, h.len, fun p hp => ?_⟩, by rw [hr]; exact Nat.le_refl _⟩
  rw [hr] at hp; cases hp
theorem Lg.fit (h : Lg b n E W d) (hE : E < 4294967290) : Fit W := by
  have h1 := h.ord; have h2 := h.nn; have h3 := h.n8; have h4 := h.base; have h5 := h.lo; have h6 := h.ep; have h7 := h.nx; have h8 := nxL_le W
  exact ⟨by omega, by omega, by omega, by omega, by omega, by omega⟩
theorem Lg.gap (h : Lg b n E W d) : W.op ≤ 100000000 ∧ W.first ≤ W.op + 1 ∧ W.op - W.first ≤ 1000 := by
  have h1 := h.ord; have h3 := h.n8; have h7 := h.nx; have h8 := nxL_le W
  omega
/-- The writes of a Flush, on a disk that bears them. -/
theorem flushL_quiet (h : Lg b n E W d) (hE : E < 4294967290) : ∀ (k : Nat) (i : Int) (dk : DS) (R : List (Int × ByteArray)), Mid d.safe R dk → dk.fuse = -1 → W.first ≤ i → i + (k : Int) = W.op + 1 → i ≤ nxL W → (∀ x ∈ R, b ≤ x.1 ∧ x.1 < b + n) →
    ∃ R' d', flushL W k i dk = (0, nxL W, d') ∧ Mid d.safe R' d' ∧ d'.fuse = -1 ∧ (∀ x ∈ R', b ≤ x.1 ∧ x.1 < b + n) := by
  have ho := h.ord; have hnn := h.nn; have hn8 := h.n8; have hbs := h.base; have hlo := h.lo; have hnx := h.nx; have hle := nxL_le W; have hep := h.ep; have hfits := h.fits
  intro k
  induction k with
  | zero =>
    intro i dk R hm hf h1 h2 h3 h4
    refine ⟨R, dk, ?_, hm, hf, h4⟩
    have : i = nxL W := by omega
    rw [this]; rfl
  | succ k ih =>
    intro i dk R hm hf h1 h2 h3 h4
    have hio : i ≤ W.op := by omega
    unfold flushL
    by_cases hz : bdy W i = ⟨#[]⟩
    · rw [if_neg (fun x => x.2 hz)]
      have hi : i = W.op := by
        rcases Int.lt_or_le i W.op with h5 | h5
        · exact absurd hz (h.full i h1 h5)
        · omega
      have : nxL W = i := by rw [hi] at hz ⊢; exact if_pos hz
      exact ⟨R, dk, by rw [this], hm, hf, h4⟩
    · rw [if_pos ⟨hio, hz⟩]
      have hp : b ≤ placeW W i ∧ placeW W i < b + n := by
        have := tmod_lt (n := W.n) (by omega) i (by omega)
        unfold placeW; omega
      have hs : (secW W i).size = 128 := sec_size' (by omega) (by omega) (h.bd i)
      have hfr := free_write hm.2.2 hf (placeW W i) (secW W i)
      rcases mid_write hm (p := placeW W i) (s := secW W i) (by omega) (by omega) hs with ⟨e1, m1⟩ | ⟨e1, _⟩
      · rw [e1, if_neg (fun x => x rfl)]
        have hnext : i + 1 ≤ nxL W := by
          rcases Int.lt_or_le i W.op with h5 | h5
          · omega
          · have hi : i = W.op := by omega
            have : nxL W = W.op + 1 := by rw [hi] at hz; exact if_neg hz
            omega
        refine ih (i + 1) _ _ m1 hfr.2.2 (by omega) (by omega) hnext (fun x hx => ?_)
        rcases List.mem_append.1 hx with hx | hx
        · exact h4 x hx
        · rw [List.mem_singleton.1 hx]; exact hp
      · exact absurd e1 hfr.1
/-- A Flush. -/
theorem Lg.flush (h : Lg b n E W d) (hE : E < 4294967290) : (flushW W d).1 = 0 ∧ (flushW W d).2.1 = doneL W ∧ Lg b n E (doneL W) (flushW W d).2.2 ∧ (flushW W d).2.2.safe.length = d.safe.length ∧ ∀ q : Int, 0 ≤ q → q < d.safe.length → (q < b ∨ b + n ≤ q) → cut (flushW W d).2.2.safe q = cut d.safe q := by
  have ho := h.ord; have hnn := h.nn; have hn8 := h.n8; have hbs := h.base; have hlo := h.lo; have hnx := h.nx; have hle := nxL_le W; have hep := h.ep; have hfits := h.fits
  have hdone : bdy W (nxL W) = ⟨#[]⟩ := by
    by_cases z : bdy W W.op = ⟨#[]⟩
    · have : nxL W = W.op := if_pos z
      rw [this]; exact z
    · have : nxL W = W.op + 1 := if_neg z
      rw [this]; exact h.hi _ (by omega)
  have hK : ∀ d' : DS, Mid d'.safe [] d' → d'.fuse = -1 → d'.safe.length = d.safe.length → Lg b n E (doneL W) d' := fun d' m f l =>
    ⟨m, f, h.ep, h.nn, h.n8, h.base, h.lo, by rw [l]; exact h.len, by rw [l]; exact h.fits, h.bd, fun i hi => h.hi i (by have hi : nxL W < i := hi; omega), fun i h1 h2 => by
      have h1 : nxL W ≤ i := h1
      have h2 : i < nxL W := h2
      omega, ⟨h.ord.1, by show 1 ≤ nxL W; omega, Int.le_refl _⟩, by
      have : nxL (doneL W) = nxL W := if_pos hdone
      rw [this]; exact hnx⟩
  obtain ⟨R', d', e1, m1, f1, r1⟩ := flushL_quiet h hE (W.op + 1 - W.first).toNat W.first d [] h.mid h.fuse (Int.le_refl _) (by omega) (by omega) (fun x hx => by cases hx)
  have hR : flushR W d = (0, nxL W, d') := e1
  unfold flushW
  rw [hR]
  simp only []
  rw [if_neg (fun x => x rfl)]
  by_cases hz : nxL W = W.first
  · rw [if_pos hz]
    have hop : W.op = W.first := by omega
    have hb0 : bdy W W.first = ⟨#[]⟩ := by rw [← hz]; exact hdone
    have hd : d' = d := by
      have e2 : flushL W (W.op + 1 - W.first).toNat W.first d = (0, W.first, d) := by
        rw [show (W.op + 1 - W.first).toNat = 1 by omega]
        unfold flushL
        rw [if_neg (fun x => x.2 hb0)]
      rw [e2] at e1
      injection e1 with _ e1
      injection e1 with _ e1
      exact e1.symm
    have hW : W = doneL W := by
      unfold doneL
      rw [hz]
      conv => lhs; rw [show W = ⟨W.base, W.n, W.low, W.first, W.op, W.ep, W.f⟩ from rfl, hop]
    subst hd
    exact ⟨rfl, hW, hK _ h.mid h.fuse rfl, rfl, fun _ _ _ _ => rfl⟩
  · rw [if_neg hz]
    have hfr := free_sync m1.2.2 f1
    rcases mid_sync m1 with ⟨e2, m2⟩ | ⟨e2, _⟩
    · rw [e2, if_neg (fun x => x rfl)]
      have hS : (syncD d').safe = overF (lastOf R') d.safe := m2.1
      have hl : (syncD d').safe.length = d.safe.length := by rw [hS, over_len]
      refine ⟨rfl, rfl, hK _ ⟨rfl, m2.2.1, m2.2.2⟩ hfr.2.2 hl, hl, fun q h0 h1 hq => ?_⟩
      show cut (syncD d').safe q = _
      rw [hS, cut_over _ _ _ h0 h1, last_none R' (fun x hx e3 => by have := r1 x hx; omega)]
      rfl
    · exact absurd e2 (by have := hfr.1; omega)
/-- Another disk that has the same room. -/
theorem Lg.frame {d' : DS} (h : Lg b n E W d) (hm : Mid d'.safe [] d') (hf : d'.fuse = -1) (hl : d'.safe.length = d.safe.length) : Lg b n E W d' :=
  ⟨hm, hf, h.ep, h.nn, h.n8, h.base, h.lo, by rw [hl]; exact h.len, by rw [hl]; exact h.fits, h.bd, h.hi, h.full, h.ord, h.nx⟩
end
theorem lg_new {b n : Int} {L : Nat} (hn : 8 ≤ n ∧ n ≤ 64) (h0 : 0 ≤ b ∧ b ≤ 900) (hb : b + n ≤ L) (hL : L ≤ 512) : Lg b n 1 (newW b n) (newD L) :=
  ⟨⟨rfl, rfl, rfl⟩, rfl, ⟨Int.le_refl _, Int.le_refl _⟩, rfl, hn, rfl, h0, by simp [newD]; exact hL, by simp [newD]; exact hb, fun _ => Nat.zero_le _, fun _ _ => rfl, fun i h1 h2 => by
    have h1 : (1 : Int) ≤ i := h1
    have h2 : i < (1 : Int) := h2
    omega, ⟨rfl, Int.le_refl _, Int.le_refl _⟩, by show (1 : Int) ≤ n + 1; omega⟩
end Go.Proofs.Ytcelfhoomhmioaa.Wl
