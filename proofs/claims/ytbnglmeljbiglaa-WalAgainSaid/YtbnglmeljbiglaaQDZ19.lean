import Derived.Test.YtbnglmeljbiglaaQDZ0
import Derived.Test.YtbnglmeljbiglaaQDZ1
import Derived.Test.YtbnglmeljbiglaaQDZ2
import Derived.Test.YtbnglmeljbiglaaQDZ3
import Derived.Test.YtbnglmeljbiglaaQDZ4
import Derived.Test.YtbnglmeljbiglaaQDZ5
import Derived.Test.YtbnglmeljbiglaaQDZ6
import Derived.Test.YtbnglmeljbiglaaQDZ7
import Derived.Test.YtbnglmeljbiglaaQDZ8
import Derived.Test.YtbnglmeljbiglaaQDZ9
import Derived.Test.YtbnglmeljbiglaaQDZ10
import Derived.Test.YtbnglmeljbiglaaQDZ11
import Derived.Test.YtbnglmeljbiglaaQDZ12
import Derived.Test.YtbnglmeljbiglaaQDZ13
import Derived.Test.YtbnglmeljbiglaaQDZ14
import Derived.Test.YtbnglmeljbiglaaQDZ15
import Derived.Test.YtbnglmeljbiglaaQDZ16
import Derived.Test.YtbnglmeljbiglaaQDZ17
import Derived.Test.YtbnglmeljbiglaaQDZ18
set_option maxRecDepth 8192
namespace Go.Proofs.Ytbnglmeljbiglaa.Wl
open Go.Proofs.Ytbnglmeljbiglaa.Rgn
open Go.Proofs.Ytbnglmeljbiglaa.X4 Go.Proofs.Ytbnglmeljbiglaa.Pt Go.Proofs.Ytbnglmeljbiglaa.Ptb Go Go.RowKit Go.ChangeMaps Go.Proofs.Ytbnglmeljbiglaa.Arr Go.Proofs.Ytbnglmeljbiglaa.Mp Go.Proofs.Ytbnglmeljbiglaa.Ow Go.Proofs.Ytbnglmeljbiglaa.Dk Go.Proofs.Ytbnglmeljbiglaa.Fr Go.Proofs.YtbnglmeljbiglaaW.PrintWords Go.Proofs.YtbnglmeljbiglaaW.PrintLast Go.Proofs.YtbnglmeljbiglaaW.PrintMore
set_option linter.unusedVariables false
set_option linter.unusedSimpArgs false
/-- The sector that a record of so many bytes goes to; what stands there. -/
def goesW (W : WS) (k : Nat) : Int × ByteArray := if bdy W W.op ≠ ⟨#[]⟩ ∧ 112 < (bdy W W.op).size + k then (W.op + 1, ⟨#[]⟩) else (W.op, bdy W W.op)
def fill (f : Int → Option ByteArray) (i : Int) (b : ByteArray) : Int → Option ByteArray := fun j => if j = i then some b else f j
/-- What Append does with a record's bytes: the place, the error, the log. -/
def appW (W : WS) (s : ByteArray) : Int × Int × WS :=
  if (goesW W s.size).2 = ⟨#[]⟩ ∧ W.low + W.n ≤ (goesW W s.size).1 then (0, 5, W)
  else ((goesW W s.size).1 * 128 + ((goesW W s.size).2.size : Int), 0, { W with op := (goesW W s.size).1, f := fill W.f (goesW W s.size).1 ((goesW W s.size).2 ++ s) })
/-- What Append does. -/
def appendW (W : WS) (r : S37) : Int × Int × WS := if (Rp.printF r).2 ≠ 0 then (0, 1, W) else appW W (Rp.printF r).1
theorem print_le (r : S37) : (Rp.printF r).1.size ≤ 112 := by
  rcases print_may (r := r) with ⟨bs, hb, ho, hp, hm⟩ | ⟨hp, hm⟩
  · rw [hp]
    show (B bs).size ≤ 112
    have := (rec_len hb).2.1
    rw [← X12.bl_len]
    show (B bs).data.toList.length ≤ 112
    rw [B_list]; exact this
  · rw [hp]; show (0 : Nat) ≤ 112; omega
section
variable {w : World} {c : Nat → Nat} {gl m g N : Nat} {W : WS}
theorem append_nil (v : Value) (hv : ∃ (r : S37) (A9 : Option Addr) (c9 : Nat) (A10 : Option Addr) (c10 : Nat), v = .agg #[.int .i64 r.f0, .int .i64 r.f1, .int .i64 r.f2, .int .i64 r.f3, .int .i64 r.f4, .int .i64 r.f5, .int .i64 r.f6, .string r.f7, .string r.f8, .slice A9 r.f9.length c9, .slice A10 r.f10.length c10]) (w : World) : Calls Try.prog 15 #[.pointer none, v] w fun e w' => e = .returned (.tuple #[.int .i64 0, .int .i64 10]) ∧ Below w.heap.size w w' := by
  obtain ⟨r, A9, c9, A10, c10, rfl⟩ := hv
  have HB := Aside0.mk ((Below.refl w.heap.size w).alloc (Nat.le_refl _) (.cells #[.int .i64 r.f0, .int .i64 r.f1, .int .i64 r.f2, .int .i64 r.f3, .int .i64 r.f4, .int .i64 r.f5, .int .i64 r.f6, .string r.f7, .string r.f8, .slice A9 r.f9.length c9, .slice A10 r.f10.length c10] 37))
  go_enter Try.func15, Try.ntmps15
  go_wp2
  go_ret2
  exact ⟨rfl, HB.out⟩
set_option maxHeartbeats 16000000 in
theorem append_calls (h : LO w c gl m g W) (F : Fit W) (hbd : (bdy W W.op).size ≤ 1000) (r : S37) (A9 : Option Addr) (c9 : Nat) (A10 : Option Addr) (c10 : Nat) (h9 : Kd.C k107 w A9 r.f9.length r.f9) (l9 : r.f9.length ≤ c9) (h10 : Kd.C k109 w A10 r.f10.length r.f10) (l10 : r.f10.length ≤ c10) (hz : r.f8.size ≤ 1000000) :
    Calls Try.prog 15 #[.pointer (some ⟨gl, 0, none⟩), .agg #[.int .i64 r.f0, .int .i64 r.f1, .int .i64 r.f2, .int .i64 r.f3, .int .i64 r.f4, .int .i64 r.f5, .int .i64 r.f6, .string r.f7, .string r.f8, .slice A9 r.f9.length c9, .slice A10 r.f10.length c10]] w fun e w' => e = .returned (.tuple #[.int .i64 (appendW W r).1, .int .i64 (appendW W r).2.1]) ∧ Fr [3] w c w' c ∧ LO w' c gl m g (appendW W r).2.2 := by
  have HL := Aside0.mk h; have HF := Aside0.mk F
  have H9 := Aside0.mk h9; have H10 := Aside0.mk h10; have HZ := Aside0.mk hz; have L9 := Aside0.mk l9; have L10 := Aside0.mk l10
  have HBD := Aside0.mk hbd
  have G := Aside0.mk (Below.refl w.heap.size w)
  clear h F h9 l9 h10 l10 hz hbd
  have FR := Aside0.mk (Fr.refl [3] w c)
  go_enter Try.func15, Try.ntmps15
  go_upto_region 1 with (fail)
  have hba := (Below.refl w.heap.size w).alloc (Nat.le_refl _) (.cells #[.int .i64 r.f0, .int .i64 r.f1, .int .i64 r.f2, .int .i64 r.f3, .int .i64 r.f4, .int .i64 r.f5, .int .i64 r.f6, .string r.f7, .string r.f8, .slice A9 r.f9.length c9, .slice A10 r.f10.length c10] 37)
  have HT := Aside0.mk (heap_alloc_new w (.cells #[.int .i64 r.f0, .int .i64 r.f1, .int .i64 r.f2, .int .i64 r.f3, .int .i64 r.f4, .int .i64 r.f5, .int .i64 r.f6, .string r.f7, .string r.f8, .slice A9 r.f9.length c9, .slice A10 r.f10.length c10] 37))
  have HL1 := Aside0.mk (HL.out.below hba); have FR1 := Aside0.mk (FR.out.trans (Fr.of_below (M := [3]) hba)); have G1 := Aside0.mk hba
  clear hba HL FR G
  generalize w.alloc (.cells #[.int .i64 r.f0, .int .i64 r.f1, .int .i64 r.f2, .int .i64 r.f3, .int .i64 r.f4, .int .i64 r.f5, .int .i64 r.f6, .string r.f7, .string r.f8, .slice A9 r.f9.length c9, .slice A10 r.f10.length c10] 37) = w0 at *
  have H9b := Aside0.mk (Kd.C_below H9.out G1.out); have H10b := Aside0.mk (Kd.C_below H10.out G1.out)
  obtain ⟨a0, a1, a2, a3, a4, a5, a6, a7, a8, a9, a10⟩ := cells11 w0 (w.heap.size) HT.out
  go_upto_region 4 with (go_at_call 46; (with_reducible refine (Wr.print_calls r A9 c9 A10 c10 _ H9b.out L9.out H10b.out L10.out HZ.out).mono ?_); rintro e w1 ⟨rfl, hb1⟩; have HL2 := Aside0.mk (HL1.out.below hb1); have FR2 := Aside0.mk (FR1.out.trans (Fr.of_below (M := [3]) hb1)); clear hb1 HL1 FR1)
  clear a0 a1 a2 a3 a4 a5 a6 a7 a8 a9 a10 HT H9b H10b G1
  obtain ⟨s, pe, hs⟩ : ∃ s pe, Rp.printF r = (s, pe) := ⟨_, _, rfl⟩
  have HS := Aside0.mk hs
  have hsl := print_le r
  rw [hs] at hsl ⊢
  have HSL := Aside0.mk (show s.size ≤ 112 from hsl)
  clear hsl hs
  by_cases hpe : pe = 0
  rotate_left
  · have e1 : (pe != 0) = true := by simpa using hpe
    have e0 : (pe == 0) = false := by simpa using hpe
    have HA := Aside0.mk (show appendW W r = (0, 1, W) by unfold appendW; rw [HS.out, if_pos hpe])
    clear hpe
    go_wp2
    go_ret2
    exact ⟨by rw [HA.out]; rfl, FR2.out, by rw [HA.out]; exact HL2.out⟩
  subst hpe
  have HA := Aside0.mk (show appendW W r = appW W s by unfold appendW; rw [HS.out, if_neg (fun h => h rfl)])
  go_upto_region 6 with (fail)
  have HL3 := Aside0.mk HL2.out.drew; have FR3 := Aside0.mk (FR2.out.trans (fr_drew [3] w1 c))
  clear HL2 FR2
  have c5 := HL3.out.c5; have c7 := HL3.out.c7
  refine start_ (n := 15) (S := fun w' => w'.cell? ⟨gl, 5, none⟩ = some (.int .i64 W.op) ∧ w'.cell? ⟨gl, 7, none⟩ = some (.map (some m))) (ds := []) #[false, false, false, false, false, false, false, false, false, false, false, false, false, false, false] (by kernel_rfl) rfl rfl ⟨c5, c7⟩ (fun hHeld => ?_)
  refine rgp 0 18 ?_
  refine rgp 1 19 ?_
  refine rgp 2 20 ?_
  refine rgp 4 22 ?_
  refine rgp 5 23 ?_
  refine rgp 6 24 ?_
  refine rgp 8 26 ?_
  refine rgp 9 27 ?_
  refine rgp 10 28 ?_
  refine rgt 3 21 hHeld ?_
  refine rgp 13 7 ?_
  refine rgt 7 25 hHeld ?_
  refine rgt 11 29 hHeld ?_
  refine one_ (i := 12) (N := some 30) #[true, true, true, true, true, true, true, true, true, true, true, true, true, true, false] rfl rfl (by kernel_rfl) (by decide) (fun K hK => ?_)
  generalize w1.drew = X0_ at *
  have hl := run_lookup0 HL3.out.map W.op
  refine value_ (w1 := ?_) (v := ?_) (by kernel_rfl) rfl ?_ ?_
  rotate_left 2
  · go_simp
    constructor
    · rfl
    · rfl
  refine hK _ _ hHeld (fun hHeld => ?_)
  clear hK K hl
  refine norm_ (a' := ?_) ?_ ?_
  rotate_left
  · show Act.put _ (some 30) _ = _
    simp only [Act.put, List.setIfInBounds_toArray, List.set_cons_zero, List.set_cons_succ, i64_w, i32_w]
    rfl
  refine rgp 14 8 ?_
  refine done_ (by kernel_rfl) ?_
  clear hHeld c5 c7
  generalize hb0 : (W.f W.op).getD ⟨#[]⟩ = b0 at *
  have hbd : b0.size ≤ 1000 := by have := HBD.out; rw [show bdy W W.op = b0 from hb0] at this; exact this
  have HB0 := Aside0.mk (show bdy W W.op = b0 from hb0)
  clear hb0
  have hw1 : wrap64 ((b0.size : Int) + (s.size : Int)) = (b0.size : Int) + (s.size : Int) := by have := HSL.out; unfold wrap64; omega
  have hwo : wrap64 (W.op + 1) = W.op + 1 := by have := HF.out.op; unfold wrap64; omega
  have hwl : wrap64 (W.low + W.n) = W.low + W.n := by have := HF.out.low; have := HF.out.n; unfold wrap64; omega
  have HBDS := Aside0.mk hbd
  clear hbd
  by_cases hem : b0 = ⟨#[]⟩
  · subst hem
    have t0 : (⟨#[]⟩ : ByteArray).toList.isEmpty = true := by rw [empty_iff]; exact decide_eq_true rfl
    go_upto_region 9 with (fail)
    have HL4 := Aside0.mk HL3.out.drew; have FR4 := Aside0.mk (FR3.out.trans (fr_drew [3] X0_ c))
    clear HL3 FR3
    have c2 := HL4.out.c2; have c3 := HL4.out.c3
    refine start_ (n := 15) (S := fun w' => w'.cell? ⟨gl, 2, none⟩ = some (.int .i64 W.n) ∧ w'.cell? ⟨gl, 3, none⟩ = some (.int .i64 W.low)) (ds := []) #[false, false, false, false, false, false, false, false, false, false, false, false, false, false, false] (by kernel_rfl) rfl rfl ⟨c2, c3⟩ (fun hHeld => ?_)
    refine rgp 0 43 ?_
    refine rgp 1 44 ?_
    refine rgp 2 45 ?_
    refine rgp 3 46 ?_
    refine rgp 4 47 ?_
    refine rgp 5 48 ?_
    refine rgp 6 49 ?_
    refine rgp 8 51 ?_
    refine rgp 9 52 ?_
    refine rgp 10 53 ?_
    refine rgt 7 50 hHeld ?_
    refine rgt 11 54 hHeld ?_
    refine rgp 12 55 ?_
    refine rgp 13 56 ?_
    refine rgp 14 57 ?_
    refine done_ (by kernel_rfl) ?_
    clear hHeld c2 c3
    have HGO := Aside0.mk (show goesW W s.size = (W.op, ⟨#[]⟩) from by unfold goesW; rw [HB0.out, if_neg (fun h => h.1 rfl)])
    by_cases hfu : W.low + W.n ≤ W.op
    · have HAP := Aside0.mk (show appW W s = (0, 5, W) by unfold appW; rw [HGO.out, if_pos ⟨rfl, hfu⟩])
      go_wp2
      go_ret2
      exact ⟨by rw [HA.out, HAP.out]; rfl, FR4.out, by rw [HA.out, HAP.out]; exact HL4.out⟩
    · have HAP := Aside0.mk (show appW W s = ((W.op) * 128 + (((⟨#[]⟩ : ByteArray).size : Nat) : Int), 0, { W with op := W.op, f := fill W.f (W.op) ((⟨#[]⟩ : ByteArray) ++ s) }) by unfold appW; rw [HGO.out, if_neg (fun h => hfu h.2)])
      have HWI := Aside0.mk (show wrap64 ((W.op) * 128) = (W.op) * 128 by have := HF.out.op; unfold wrap64; omega)
      have HWJ := Aside0.mk (show wrap64 ((W.op) * 128 + (((⟨#[]⟩ : ByteArray)).size : Int)) = (W.op) * 128 + (((⟨#[]⟩ : ByteArray)).size : Int) by have := HF.out.op; have := HBDS.out; have : (⟨#[]⟩ : ByteArray).size = 0 := rfl; unfold wrap64; omega)
      have hwi := HWI.out; have hwj := HWJ.out
      generalize X0_.drew = X1_ at *
      have c5 := HL4.out.c5; have f5 := HL4.out.fz 5
      have s1 := HL4.out.set 5 (.int .i64 (W.op)) (W' := { W with op := W.op }) rfl rfl
      have c7 := s1.1.c7
      obtain ⟨ob, hrun, hmp⟩ := run_update_mp (P := Try.prog) (t := 84) (k := 3) (e := 9) (by kernel_rfl) (by kernel_rfl) s1.1.map (W.op) ((⟨#[]⟩ : ByteArray) ++ s)
      have s2 := s1.1.turn hmp
      have HL5 := Aside0.mk s2.1; have FR5 := Aside0.mk ((FR4.out.trans s1.2).trans s2.2)
      clear s1 s2 hmp
      have HCT := Aside0.mk (show s.size ≤ 9223372036854775807 by have := HSL.out; omega)
      have hct0 : (9223372036854775807 < s.size) = False := eq_false (by have := HCT.out; omega)
      have hct1 : (9223372036854775807 < ((⟨#[]⟩ : ByteArray)).size + s.size) = False := eq_false (by have := HSL.out; have := HBDS.out; have : (⟨#[]⟩ : ByteArray).size = 0 := rfl; omega)
      go_wp2
      go_ret2
      refine ⟨?_, FR5.out, ?_⟩
      · rw [HA.out, HAP.out]; first | rfl | (simp [HWI.out, HWJ.out]; done) | (simp [HWI.out, HWJ.out, show (⟨#[]⟩ : ByteArray).size = 0 from rfl])
      · rw [HA.out, HAP.out]; exact HL5.out
  have t0 : b0.toList.isEmpty = false := by rw [empty_iff, decide_eq_false hem]
  by_cases hgt : (112 : Int) < (b0.size : Int) + (s.size : Int)
  · have HGE := Aside0.mk (show goesW W s.size = (W.op + 1, ⟨#[]⟩) by unfold goesW; rw [HB0.out, if_pos ⟨hem, by omega⟩])
    go_upto_region 9 with (fail)
    have HL4 := Aside0.mk HL3.out.drew; have FR4 := Aside0.mk (FR3.out.trans (fr_drew [3] X0_ c))
    clear HL3 FR3
    have c2 := HL4.out.c2; have c3 := HL4.out.c3
    refine start_ (n := 15) (S := fun w' => w'.cell? ⟨gl, 2, none⟩ = some (.int .i64 W.n) ∧ w'.cell? ⟨gl, 3, none⟩ = some (.int .i64 W.low)) (ds := []) #[false, false, false, false, false, false, false, false, false, false, false, false, false, false, false] (by kernel_rfl) rfl rfl ⟨c2, c3⟩ (fun hHeld => ?_)
    refine rgp 0 43 ?_
    refine rgp 1 44 ?_
    refine rgp 2 45 ?_
    refine rgp 3 46 ?_
    refine rgp 4 47 ?_
    refine rgp 5 48 ?_
    refine rgp 6 49 ?_
    refine rgp 8 51 ?_
    refine rgp 9 52 ?_
    refine rgp 10 53 ?_
    refine rgt 7 50 hHeld ?_
    refine rgt 11 54 hHeld ?_
    refine rgp 12 55 ?_
    refine rgp 13 56 ?_
    refine rgp 14 57 ?_
    refine done_ (by kernel_rfl) ?_
    clear hHeld c2 c3
    have HGO := Aside0.mk (show goesW W s.size = ((W.op + 1), ⟨#[]⟩) from HGE.out)
    by_cases hfu : W.low + W.n ≤ (W.op + 1)
    · have HAP := Aside0.mk (show appW W s = (0, 5, W) by unfold appW; rw [HGO.out, if_pos ⟨rfl, hfu⟩])
      go_wp2
      go_ret2
      exact ⟨by rw [HA.out, HAP.out]; rfl, FR4.out, by rw [HA.out, HAP.out]; exact HL4.out⟩
    · have HAP := Aside0.mk (show appW W s = (((W.op + 1)) * 128 + (((⟨#[]⟩ : ByteArray).size : Nat) : Int), 0, { W with op := (W.op + 1), f := fill W.f ((W.op + 1)) ((⟨#[]⟩ : ByteArray) ++ s) }) by unfold appW; rw [HGO.out, if_neg (fun h => hfu h.2)])
      have HWI := Aside0.mk (show wrap64 (((W.op + 1)) * 128) = ((W.op + 1)) * 128 by have := HF.out.op; unfold wrap64; omega)
      have HWJ := Aside0.mk (show wrap64 (((W.op + 1)) * 128 + (((⟨#[]⟩ : ByteArray)).size : Int)) = ((W.op + 1)) * 128 + (((⟨#[]⟩ : ByteArray)).size : Int) by have := HF.out.op; have := HBDS.out; have : (⟨#[]⟩ : ByteArray).size = 0 := rfl; unfold wrap64; omega)
      have hwi := HWI.out; have hwj := HWJ.out
      generalize X0_.drew = X1_ at *
      have c5 := HL4.out.c5; have f5 := HL4.out.fz 5
      have s1 := HL4.out.set 5 (.int .i64 ((W.op + 1))) (W' := { W with op := (W.op + 1) }) rfl rfl
      have c7 := s1.1.c7
      obtain ⟨ob, hrun, hmp⟩ := run_update_mp (P := Try.prog) (t := 84) (k := 3) (e := 9) (by kernel_rfl) (by kernel_rfl) s1.1.map ((W.op + 1)) ((⟨#[]⟩ : ByteArray) ++ s)
      have s2 := s1.1.turn hmp
      have HL5 := Aside0.mk s2.1; have FR5 := Aside0.mk ((FR4.out.trans s1.2).trans s2.2)
      clear s1 s2 hmp
      have HCT := Aside0.mk (show s.size ≤ 9223372036854775807 by have := HSL.out; omega)
      have hct0 : (9223372036854775807 < s.size) = False := eq_false (by have := HCT.out; omega)
      have hct1 : (9223372036854775807 < ((⟨#[]⟩ : ByteArray)).size + s.size) = False := eq_false (by have := HSL.out; have := HBDS.out; have : (⟨#[]⟩ : ByteArray).size = 0 := rfl; omega)
      go_wp2
      go_ret2
      refine ⟨?_, FR5.out, ?_⟩
      · rw [HA.out, HAP.out]; first | rfl | (simp [HWI.out, HWJ.out]; done) | (simp [HWI.out, HWJ.out, show (⟨#[]⟩ : ByteArray).size = 0 from rfl])
      · rw [HA.out, HAP.out]; exact HL5.out
  · have HAP := Aside0.mk (show appW W s = (W.op * 128 + (b0.size : Int), 0, { W with op := W.op, f := fill W.f W.op (b0 ++ s) }) by
      have hgo : goesW W s.size = (W.op, b0) := by unfold goesW; rw [HB0.out, if_neg (fun h => hgt (by omega))]
      unfold appW
      rw [hgo, if_neg (fun h => hem h.1)])
    go_upto_region 9 with (fail)
    have HL4 := Aside0.mk HL3.out.drew; have FR4 := Aside0.mk (FR3.out.trans (fr_drew [3] X0_ c))
    clear HL3 FR3
    have c2 := HL4.out.c2; have c3 := HL4.out.c3
    refine start_ (n := 15) (S := fun w' => w'.cell? ⟨gl, 2, none⟩ = some (.int .i64 W.n) ∧ w'.cell? ⟨gl, 3, none⟩ = some (.int .i64 W.low)) (ds := []) #[false, false, false, false, false, false, false, false, false, false, false, false, false, false, false] (by kernel_rfl) rfl rfl ⟨c2, c3⟩ (fun hHeld => ?_)
    refine rgp 0 43 ?_
    refine rgp 1 44 ?_
    refine rgp 2 45 ?_
    refine pure_ (i := 3) (N := some 46) (v := undef) (a' := ?_) #[true, true, true, true, false, false, false, false, false, false, false, false, false, false, false] rfl rfl (by kernel_rfl) (fun _ _ _ h => h) (Or.inr ⟨by rfl, rfl⟩) ?_ ?_
    rotate_left
    · simp only [Act.put, List.setIfInBounds_toArray, List.set_cons_zero, List.set_cons_succ, i64_w, i32_w]
      rfl
    refine pure_ (i := 4) (N := some 47) (v := undef) (a' := ?_) #[true, true, true, true, true, false, false, false, false, false, false, false, false, false, false] rfl rfl (by kernel_rfl) (fun _ _ _ h => h) (Or.inr ⟨by rfl, rfl⟩) ?_ ?_
    rotate_left
    · simp only [Act.put, List.setIfInBounds_toArray, List.set_cons_zero, List.set_cons_succ, i64_w, i32_w]
      rfl
    refine pure_ (i := 5) (N := some 48) (v := undef) (a' := ?_) #[true, true, true, true, true, true, false, false, false, false, false, false, false, false, false] rfl rfl (by kernel_rfl) (fun _ _ _ h => h) (Or.inr ⟨by rfl, rfl⟩) ?_ ?_
    rotate_left
    · simp only [Act.put, List.setIfInBounds_toArray, List.set_cons_zero, List.set_cons_succ, i64_w, i32_w]
      rfl
    refine pure_ (i := 6) (N := some 49) (v := undef) (a' := ?_) #[true, true, true, true, true, true, true, false, false, false, false, false, false, false, false] rfl rfl (by kernel_rfl) (fun _ _ _ h => h) (Or.inr ⟨by rfl, rfl⟩) ?_ ?_
    rotate_left
    · simp only [Act.put, List.setIfInBounds_toArray, List.set_cons_zero, List.set_cons_succ, i64_w, i32_w]
      rfl
    refine pure_ (i := 7) (N := some 50) (v := undef) (a' := ?_) #[true, true, true, true, true, true, true, true, false, false, false, false, false, false, false] rfl rfl (by kernel_rfl) (fun _ _ _ h => h) (Or.inr ⟨by rfl, rfl⟩) ?_ ?_
    rotate_left
    · simp only [Act.put, List.setIfInBounds_toArray, List.set_cons_zero, List.set_cons_succ, i64_w, i32_w]
      rfl
    refine pure_ (i := 8) (N := some 51) (v := undef) (a' := ?_) #[true, true, true, true, true, true, true, true, true, false, false, false, false, false, false] rfl rfl (by kernel_rfl) (fun _ _ _ h => h) (Or.inr ⟨by rfl, rfl⟩) ?_ ?_
    rotate_left
    · simp only [Act.put, List.setIfInBounds_toArray, List.set_cons_zero, List.set_cons_succ, i64_w, i32_w]
      rfl
    refine pure_ (i := 9) (N := some 52) (v := undef) (a' := ?_) #[true, true, true, true, true, true, true, true, true, true, false, false, false, false, false] rfl rfl (by kernel_rfl) (fun _ _ _ h => h) (Or.inr ⟨by rfl, rfl⟩) ?_ ?_
    rotate_left
    · simp only [Act.put, List.setIfInBounds_toArray, List.set_cons_zero, List.set_cons_succ, i64_w, i32_w]
      rfl
    refine pure_ (i := 10) (N := some 53) (v := undef) (a' := ?_) #[true, true, true, true, true, true, true, true, true, true, true, false, false, false, false] rfl rfl (by kernel_rfl) (fun _ _ _ h => h) (Or.inr ⟨by rfl, rfl⟩) ?_ ?_
    rotate_left
    · simp only [Act.put, List.setIfInBounds_toArray, List.set_cons_zero, List.set_cons_succ, i64_w, i32_w]
      rfl
    refine pure_ (i := 11) (N := some 54) (v := undef) (a' := ?_) #[true, true, true, true, true, true, true, true, true, true, true, true, false, false, false] rfl rfl (by kernel_rfl) (fun _ _ _ h => h) (Or.inr ⟨by rfl, rfl⟩) ?_ ?_
    rotate_left
    · simp only [Act.put, List.setIfInBounds_toArray, List.set_cons_zero, List.set_cons_succ, i64_w, i32_w]
      rfl
    refine pure_ (i := 12) (N := some 55) (v := undef) (a' := ?_) #[true, true, true, true, true, true, true, true, true, true, true, true, true, false, false] rfl rfl (by kernel_rfl) (fun _ _ _ h => h) (Or.inr ⟨by rfl, rfl⟩) ?_ ?_
    rotate_left
    · simp only [Act.put, List.setIfInBounds_toArray, List.set_cons_zero, List.set_cons_succ, i64_w, i32_w]
      rfl
    refine pure_ (i := 13) (N := some 56) (v := undef) (a' := ?_) #[true, true, true, true, true, true, true, true, true, true, true, true, true, true, false] rfl rfl (by kernel_rfl) (fun _ _ _ h => h) (Or.inr ⟨by rfl, rfl⟩) ?_ ?_
    rotate_left
    · simp only [Act.put, List.setIfInBounds_toArray, List.set_cons_zero, List.set_cons_succ, i64_w, i32_w]
      rfl
    refine rgp 14 57 ?_
    refine done_ (by kernel_rfl) ?_
    clear hHeld c2 c3
    have HWI := Aside0.mk (show wrap64 ((W.op) * 128) = (W.op) * 128 by have := HF.out.op; unfold wrap64; omega)
    have HWJ := Aside0.mk (show wrap64 ((W.op) * 128 + ((b0).size : Int)) = (W.op) * 128 + ((b0).size : Int) by have := HF.out.op; have := HBDS.out; have : (⟨#[]⟩ : ByteArray).size = 0 := rfl; unfold wrap64; omega)
    have hwi := HWI.out; have hwj := HWJ.out
    generalize X0_.drew = X1_ at *
    have c5 := HL4.out.c5; have f5 := HL4.out.fz 5
    have s1 := HL4.out.set 5 (.int .i64 (W.op)) (W' := { W with op := W.op }) rfl rfl
    have c7 := s1.1.c7
    obtain ⟨ob, hrun, hmp⟩ := run_update_mp (P := Try.prog) (t := 84) (k := 3) (e := 9) (by kernel_rfl) (by kernel_rfl) s1.1.map (W.op) (b0 ++ s)
    have s2 := s1.1.turn hmp
    have HL5 := Aside0.mk s2.1; have FR5 := Aside0.mk ((FR4.out.trans s1.2).trans s2.2)
    clear s1 s2 hmp
    have HCT := Aside0.mk (show s.size ≤ 9223372036854775807 by have := HSL.out; omega)
    have hct0 : (9223372036854775807 < s.size) = False := eq_false (by have := HCT.out; omega)
    have hct1 : (9223372036854775807 < (b0).size + s.size) = False := eq_false (by have := HSL.out; have := HBDS.out; have : (⟨#[]⟩ : ByteArray).size = 0 := rfl; omega)
    go_wp2
    go_ret2
    refine ⟨?_, FR5.out, ?_⟩
    · rw [HA.out, HAP.out]; first | rfl | (simp [HWI.out, HWJ.out]; done) | (simp [HWI.out, HWJ.out, show (⟨#[]⟩ : ByteArray).size = 0 from rfl])
    · rw [HA.out, HAP.out]; exact HL5.out
theorem room_calls (h : LO w c gl m g W) (F : Fit W) : Calls Try.prog 25 #[.pointer (some ⟨gl, 0, none⟩)] w fun e w' => e = .returned (.int .i64 (roomW W)) ∧ Below w.heap.size w w' := by
  have HL := Aside0.mk h
  have hw1 : wrap64 (W.low + W.n) = W.low + W.n := by have := F.low; have := F.n; unfold wrap64; omega
  have hw2 : wrap64 (W.low + W.n - W.op) = W.low + W.n - W.op := by have := F.low; have := F.n; have := F.op; unfold wrap64; omega
  have hw3 : wrap64 (W.low + W.n - W.op - 1) = W.low + W.n - W.op - 1 := by have := F.low; have := F.n; have := F.op; unfold wrap64; omega
  have c2 := h.c2; have c3 := h.c3; have c5 := h.c5; have c7 := h.c7
  have hl := run_lookup0 h.map W.op
  clear h F
  have G := Aside0.mk (Below.refl w.heap.size w)
  unfold roomW bdy
  generalize hb0 : (W.f W.op).getD ⟨#[]⟩ = b0 at *
  by_cases hem : b0 = ⟨#[]⟩
  · rw [if_pos hem]
    have t0 : b0.toList.isEmpty = true := by rw [empty_iff, decide_eq_true hem]
    clear hem
    go_enter Try.func25, Try.ntmps25
    go_upto_region 3 with (fail)
    have HL1 := Aside0.mk HL.out.drew
    have d2 := HL1.out.c2; have d3 := HL1.out.c3; have d5 := HL1.out.c5
    refine start_ (n := 15) (S := fun w' => w'.cell? ⟨gl, 2, none⟩ = some (.int .i64 W.n) ∧ w'.cell? ⟨gl, 3, none⟩ = some (.int .i64 W.low) ∧ w'.cell? ⟨gl, 5, none⟩ = some (.int .i64 W.op)) (ds := []) #[false, false, false, false, false, false, false, false, false, false, false, false, false, false, false] (by kernel_rfl) rfl rfl ⟨d2, d3, d5⟩ (fun hHeld => ?_)
    refine rgp 0 6 ?_
    refine rgp 1 7 ?_
    refine rgp 2 8 ?_
    refine rgp 4 10 ?_
    refine rgp 5 11 ?_
    refine rgp 6 12 ?_
    refine rgp 9 15 ?_
    refine rgp 10 16 ?_
    refine rgp 11 17 ?_
    refine rgt 3 9 hHeld ?_
    refine rgt 7 13 hHeld ?_
    refine rgp 8 14 ?_
    refine rgt 12 18 hHeld ?_
    refine rgp 13 19 ?_
    refine rgp 14 3 ?_
    refine done_ (by kernel_rfl) ?_
    clear hHeld d2 d3 d5 c2 c3 c5 c7 hl
    go_upto_region 4 with (fail)
    have HL2 := Aside0.mk HL1.out.drew
    have d5 := HL2.out.c5; have d7 := HL2.out.c7
    refine start_ (n := 10) (S := fun w' => w'.cell? ⟨gl, 5, none⟩ = some (.int .i64 W.op) ∧ w'.cell? ⟨gl, 7, none⟩ = some (.map (some m))) (ds := []) #[false, false, false, false, false, false, false, false, false, false] (by kernel_rfl) rfl rfl ⟨d5, d7⟩ (fun hHeld => ?_)
    refine rgp 0 20 ?_
    refine rgp 1 21 ?_
    refine rgp 2 22 ?_
    refine rgp 4 24 ?_
    refine rgp 5 25 ?_
    refine rgp 6 26 ?_
    refine rgt 3 23 hHeld ?_
    refine rgt 7 27 hHeld ?_
    refine one_ (i := 8) (N := some 28) #[true, true, true, true, true, true, true, true, true, false] rfl rfl (by kernel_rfl) (by decide) (fun K hK => ?_)
    have GG := Aside0.mk (((Below.refl w.heap.size w).drew).drew)
    generalize w.drew.drew = X0_ at *
    have hl := run_lookup0 HL2.out.map W.op
    rw [hb0] at hl
    refine value_ (w1 := ?_) (v := ?_) (by kernel_rfl) rfl ?_ ?_
    rotate_left 2
    · go_simp
      constructor
      · rfl
      · rfl
    refine hK _ _ hHeld (fun hHeld => ?_)
    clear hK K hl
    refine norm_ (a' := ?_) ?_ ?_
    rotate_left
    · show Act.put _ (some 28) _ = _
      simp only [Act.put, List.setIfInBounds_toArray, List.set_cons_zero, List.set_cons_succ, i64_w, i32_w]
      rfl
    refine rgp 9 29 ?_
    refine done_ (by kernel_rfl) ?_
    clear hHeld d5 d7
    go_wp2
    go_ret
    exact ⟨by first | rfl | (simp [hw1, hw2]), GG.out⟩
  · rw [if_neg hem]
    have t0 : b0.toList.isEmpty = false := by rw [empty_iff, decide_eq_false hem]
    clear hem
    go_enter Try.func25, Try.ntmps25
    go_upto_region 3 with (fail)
    have HL1 := Aside0.mk HL.out.drew
    have d2 := HL1.out.c2; have d3 := HL1.out.c3; have d5 := HL1.out.c5
    refine start_ (n := 15) (S := fun w' => w'.cell? ⟨gl, 2, none⟩ = some (.int .i64 W.n) ∧ w'.cell? ⟨gl, 3, none⟩ = some (.int .i64 W.low) ∧ w'.cell? ⟨gl, 5, none⟩ = some (.int .i64 W.op)) (ds := []) #[false, false, false, false, false, false, false, false, false, false, false, false, false, false, false] (by kernel_rfl) rfl rfl ⟨d2, d3, d5⟩ (fun hHeld => ?_)
    refine rgp 0 6 ?_
    refine rgp 1 7 ?_
    refine rgp 2 8 ?_
    refine rgp 4 10 ?_
    refine rgp 5 11 ?_
    refine rgp 6 12 ?_
    refine rgp 9 15 ?_
    refine rgp 10 16 ?_
    refine rgp 11 17 ?_
    refine rgt 3 9 hHeld ?_
    refine rgt 7 13 hHeld ?_
    refine rgp 8 14 ?_
    refine rgt 12 18 hHeld ?_
    refine rgp 13 19 ?_
    refine rgp 14 3 ?_
    refine done_ (by kernel_rfl) ?_
    clear hHeld d2 d3 d5 c2 c3 c5 c7 hl
    go_upto_region 4 with (fail)
    have HL2 := Aside0.mk HL1.out.drew
    have d5 := HL2.out.c5; have d7 := HL2.out.c7
    refine start_ (n := 10) (S := fun w' => w'.cell? ⟨gl, 5, none⟩ = some (.int .i64 W.op) ∧ w'.cell? ⟨gl, 7, none⟩ = some (.map (some m))) (ds := []) #[false, false, false, false, false, false, false, false, false, false] (by kernel_rfl) rfl rfl ⟨d5, d7⟩ (fun hHeld => ?_)
    refine rgp 0 20 ?_
    refine rgp 1 21 ?_
    refine rgp 2 22 ?_
    refine rgp 4 24 ?_
    refine rgp 5 25 ?_
    refine rgp 6 26 ?_
    refine rgt 3 23 hHeld ?_
    refine rgt 7 27 hHeld ?_
    refine one_ (i := 8) (N := some 28) #[true, true, true, true, true, true, true, true, true, false] rfl rfl (by kernel_rfl) (by decide) (fun K hK => ?_)
    have GG := Aside0.mk (((Below.refl w.heap.size w).drew).drew)
    generalize w.drew.drew = X0_ at *
    have hl := run_lookup0 HL2.out.map W.op
    rw [hb0] at hl
    refine value_ (w1 := ?_) (v := ?_) (by kernel_rfl) rfl ?_ ?_
    rotate_left 2
    · go_simp
      constructor
      · rfl
      · rfl
    refine hK _ _ hHeld (fun hHeld => ?_)
    clear hK K hl
    refine norm_ (a' := ?_) ?_ ?_
    rotate_left
    · show Act.put _ (some 28) _ = _
      simp only [Act.put, List.setIfInBounds_toArray, List.set_cons_zero, List.set_cons_succ, i64_w, i32_w]
      rfl
    refine rgp 9 29 ?_
    refine done_ (by kernel_rfl) ?_
    clear hHeld d5 d7
    go_wp2
    go_ret
    exact ⟨by first | rfl | (simp [hw1, hw2, hw3]), GG.out⟩
end
end Go.Proofs.Ytbnglmeljbiglaa.Wl
