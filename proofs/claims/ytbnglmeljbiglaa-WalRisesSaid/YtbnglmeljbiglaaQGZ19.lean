import Derived.Test.YtbnglmeljbiglaaQGZ0
import Derived.Test.YtbnglmeljbiglaaQGZ1
import Derived.Test.YtbnglmeljbiglaaQGZ2
import Derived.Test.YtbnglmeljbiglaaQGZ3
import Derived.Test.YtbnglmeljbiglaaQGZ4
import Derived.Test.YtbnglmeljbiglaaQGZ5
import Derived.Test.YtbnglmeljbiglaaQGZ6
import Derived.Test.YtbnglmeljbiglaaQGZ7
import Derived.Test.YtbnglmeljbiglaaQGZ8
import Derived.Test.YtbnglmeljbiglaaQGZ9
import Derived.Test.YtbnglmeljbiglaaQGZ10
import Derived.Test.YtbnglmeljbiglaaQGZ11
import Derived.Test.YtbnglmeljbiglaaQGZ12
import Derived.Test.YtbnglmeljbiglaaQGZ13
import Derived.Test.YtbnglmeljbiglaaQGZ14
import Derived.Test.YtbnglmeljbiglaaQGZ15
import Derived.Test.YtbnglmeljbiglaaQGZ16
import Derived.Test.YtbnglmeljbiglaaQGZ17
import Derived.Test.YtbnglmeljbiglaaQGZ18
set_option maxRecDepth 8192
namespace Go.Proofs.Ytbnglmeljbiglaa.Wl
open Go.Proofs.Ytbnglmeljbiglaa.Rgn
open Go.Proofs.Ytbnglmeljbiglaa.X4 Go.Proofs.Ytbnglmeljbiglaa.Pt Go.Proofs.Ytbnglmeljbiglaa.Ptb Go Go.RowKit Go.ChangeMaps Go.Proofs.Ytbnglmeljbiglaa.Arr Go.Proofs.Ytbnglmeljbiglaa.Mp Go.Proofs.Ytbnglmeljbiglaa.Ow Go.Proofs.Ytbnglmeljbiglaa.Dk Go.Proofs.Ytbnglmeljbiglaa.Fr Go.Proofs.YtbnglmeljbiglaaW.PrintWords Go.Proofs.YtbnglmeljbiglaaW.PrintLast Go.Proofs.YtbnglmeljbiglaaW.PrintMore
set_option linter.unusedVariables false
set_option linter.unusedSimpArgs false
/-- The sector that a record of so many bytes goes to; what stands there. -/
def goesW (W : WS) (k : Nat) : Int × ByteArray := if bdy W W.op ≠ ⟨#[]⟩ ∧ 112 < (bdy W W.op).size + k then (W.op + 1, ⟨#[]⟩) else (W.op, bdy W W.op)
def fill (f : Int → Option ByteArray) (i : Int) (b : ByteArray) : Int → Option ByteArray := fun j => if j = i then some b else f j
/-- What Append does with a record's bytes: the place, the error, the log. -/
def appW (W : WS) (s : ByteArray) : Int × Int × WS :=
  if (goesW W s.size).2 = ⟨#[]⟩ ∧ W.low + W.n ≤ (goesW W s.size).1 then (0, 5, W)
  else ((goesW W s.size).1 * 128 + ((goesW W s.size).2.size : Int), 0, { W with op := (goesW W s.size).1, f := fill W.f (goesW W s.size).1 ((goesW W s.size).2 ++ s) })
/-- What Append does. -/
def appendW (W : WS) (r : S37) : Int × Int × WS := if (Rp.printF r).2 ≠ 0 then (0, 1, W) else appW W (Rp.printF r).1
theorem print_le (r : S37) : (Rp.printF r).1.size ≤ 112 := by
  rcases print_may (r := r) with ⟨bs, hb, ho, hp, hm⟩ | ⟨hp, hm⟩
  · rw [hp]
    show (B bs).size ≤ 112
    have := (rec_len hb).2.1
    rw [← X12.bl_len]
    show (B bs).data.toList.length ≤ 112
    rw [B_list]; exact this
  · rw [hp]; show (0 : Nat) ≤ 112; omega
section
variable {w : World} {c : Nat → Nat} {gl m g N : Nat} {W : WS}
theorem append_nil (v : Value) (hv : ∃ (r : S37) (A9 : Option Addr) (c9 : Nat) (A10 : Option Addr) (c10 : Nat), v = .agg #[.int .i64 r.f0, .int .i64 r.f1, .int .i64 r.f2, .int .i64 r.f3, .int .i64 r.f4, .int .i64 r.f5, .int .i64 r.f6, .string r.f7, .string r.f8, .slice A9 r.f9.length c9, .slice A10 r.f10.length c10]) (w : World) : Calls Try.prog 15 #[.pointer none, v] w fun e w' => e = .returned (.tuple #[.int .i64 0, .int .i64 10]) ∧ Below w.heap.size w w' := by
  obtain ⟨r, A9, c9, A10, c10, rfl⟩ := hv
  have HB := Aside0.mk ((Below.refl w.heap.size w).alloc (Nat.le_refl _) (.cells #[.int .i64 r.f0, .int .i64 r.f1, .int .i64 r.f2, .int .i64 r.f3, .int .i64 r.f4, .int .i64 r.f5, .int .i64 r.f6, .string r.f7, .string r.f8, .slice A9 r.f9.length c9, .slice A10 r.f10.length c10] 37))
  go_enter Try.func15, Try.ntmps15
  go_wp2
  go_ret2
  exact ⟨rfl, HB.out⟩
set_option maxHeartbeats 16000000 in
theorem append_calls (h : LO w c gl m g W) (F : Fit W) (hbd : (bdy W W.op).size ≤ 1000) (r : S37) (A9 : Option Addr) (c9 : Nat) (A10 : Option Addr) (c10 : Nat) (h9 : Kd.C k107 w A9 r.f9.length r.f9) (l9 : r.f9.length ≤ c9) (h10 : Kd.C k109 w A10 r.f10.length r.f10) (l10 : r.f10.length ≤ c10) (hz : r.f8.size ≤ 1000000) :
    Calls Try.prog 15 #[.pointer (some ⟨gl, 0, none⟩), .agg #[.int .i64 r.f0, .int .i64 r.f1, .int .i64 r.f2, .int .i64 r.f3, .int .i64 r.f4, .int .i64 r.f5, .int .i64 r.f6, .string r.f7, .string r.f8, .slice A9 r.f9.length c9, .slice A10 r.f10.length c10]] w fun e w' => e = .returned (.tuple #[.int .i64 (appendW W r).1, .int .i64 (appendW W r).2.1]) ∧ Fr [3] w c w' c ∧ LO w' c gl m g (appendW W r).2.2 := by
  have HL := Aside0.mk h; have HF := Aside0.mk F
  have H9 := Aside0.mk h9; have H10 := Aside0.mk h10; have HZ := Aside0.mk hz; have L9 := Aside0.mk l9; have L10 := Aside0.mk l10
  have HBD := Aside0.mk hbd
  have G := Aside0.mk (Below.refl w.heap.size w)
  clear h F h9 l9 h10 l10 hz hbd
  have FR := Aside0.mk (Fr.refl [3] w c)
  go_enter Try.func15, Try.ntmps15
  go_upto_region 1 with (fail)
  have hba := (Below.refl w.heap.size w).alloc (Nat.le_refl _) (.cells #[.int .i64 r.f0, .int .i64 r.f1, .int .i64 r.f2, .int .i64 r.f3, .int .i64 r.f4, .int .i64 r.f5, .int .i64 r.f6, .string r.f7, .string r.f8, .slice A9 r.f9.length c9, .slice A10 r.f10.length c10] 37)
  have HT := Aside0.mk (heap_alloc_new w (.cells #[.int .i64 r.f0, .int .i64 r.f1, .int .i64 r.f2, .int .i64 r.f3, .int .i64 r.f4, .int .i64 r.f5, .int .i64 r.f6, .string r.f7, .string r.f8, .slice A9 r.f9.length c9, .slice A10 r.f10.length c10] 37))
  have HL1 := Aside0.mk (HL.out.below hba); have FR1 := Aside0.mk (FR.out.trans (Fr.of_below (M := [3]) hba)); have G1 := Aside0.mk hba
  clear hba HL FR G
  generalize w.alloc (.cells #[.int .i64 r.f0, .int .i64 r.f1, .int .i64 r.f2, .int .i64 r.f3, .int .i64 r.f4, .int .i64 r.f5, .int .i64 r.f6, .string r.f7, .string r.f8, .slice A9 r.f9.length c9, .slice A10 r.f10.length c10] 37) = w0 at *
  have H9b := Aside0.mk (Kd.C_below H9.out G1.out); have H10b := Aside0.mk (Kd.C_below H10.out G1.out)
  obtain ⟨a0, a1, a2, a3, a4, a5, a6, a7, a8, a9, a10⟩ := cells11 w0 (w.heap.size) HT.out
  go_upto_region 4 with (go_at_call 46; (with_reducible refine (Wr.print_calls r A9 c9 A10 c10 _ H9b.out L9.out H10b.out L10.out HZ.out).mono ?_); rintro e w1 ⟨rfl, hb1⟩; have HL2 := Aside0.mk (HL1.out.below hb1); have FR2 := Aside0.mk (FR1.out.trans (Fr.of_below (M := [3]) hb1)); clear hb1 HL1 FR1)
  clear a0 a1 a2 a3 a4 a5 a6 a7 a8 a9 a10 HT H9b H10b G1
  obtain ⟨s, pe, hs⟩ : ∃ s pe, Rp.printF r = (s, pe) := ⟨_, _, rfl⟩
  have HS := Aside0.mk hs
  have hsl := print_le r
  rw [hs] at hsl ⊢
  have HSL := Aside0.mk (show s.size ≤ 112 from hsl)
  clear hsl hs
  by_cases hpe : pe = 0
  rotate_left
  · have e1 : (pe != 0) = true := by simpa using hpe
    have e0 : (pe == 0) = false := by simpa using hpe
    have HA := Aside0.mk (show appendW W r = (0, 1, W) by unfold appendW; rw [HS.out, if_pos hpe])
    clear hpe
    go_wp2
    go_ret2
    exact ⟨by rw [HA.out]; rfl, FR2.out, by rw [HA.out]; exact HL2.out⟩
  subst hpe
  have HA := Aside0.mk (show appendW W r = appW W s by unfold appendW; rw [HS.out, if_neg (fun h => h rfl)])
  go_upto_region 6 with (fail)
  have HL3 := Aside0.mk HL2.out.drew; have FR3 := Aside0.mk (FR2.out.trans (fr_drew [3] w1 c))
  clear HL2 FR2
  have c5 := HL3.out.c5; have c7 := HL3.out.c7
  refine start_ (n := 15) (S := fun w' => w'.cell? ⟨gl, 5, none⟩ = some (.int .i64 W.op) ∧ w'.cell? ⟨gl, 7, none⟩ = some (.map (some m))) (ds := []) #[false, false, false, false, false, false, false, false, false, false, false, false, false, false, false] (by kernel_rfl) rfl rfl ⟨c5, c7⟩ (fun hHeld => ?_)
  refine rgp 0 18 ?_
  refine rgp 1 19 ?_
  refine rgp 2 20 ?_
  refine rgp 4 22 ?_
  refine rgp 5 23 ?_
  refine rgp 6 24 ?_
  refine rgp 8 26 ?_
  refine rgp 9 27 ?_
  refine rgp 10 28 ?_
  refine rgt 3 21 hHeld ?_
  refine rgp 13 7 ?_
  refine rgt 7 25 hHeld ?_
  refine rgt 11 29 hHeld ?_
  refine one_ (i := 12) (N := some 30) #[true, true, true, true, true, true, true, true, true, true, true, true, true, true, false] rfl rfl (by kernel_rfl) (by decide) (fun K hK => ?_)
  generalize w1.drew = X0_ at *
  have hl := run_lookup0 HL3.out.map W.op
  refine value_ (w1 := ?_) (v := ?_) (by kernel_rfl) rfl ?_ ?_
  rotate_left 2
  · go_simp
    constructor
    · rfl
    · rfl
  refine hK _ _ hHeld (fun hHeld => ?_)
  clear hK K hl
  refine norm_ (a' := ?_) ?_ ?_
  rotate_left
  · show Act.put _ (some 30) _ = _
    simp only [Act.put, List.setIfInBounds_toArray, List.set_cons_zero, List.set_cons_succ, i64_w, i32_w]
    rfl
  refine rgp 14 8 ?_
  refine done_ (by kernel_rfl) ?_
  clear hHeld c5 c7
  generalize hb0 : (W.f W.op).getD ⟨#[]⟩ = b0 at *
  have hbd : b0.size ≤ 1000 := by have := HBD.out; rw [show bdy W W.op = b0 from hb0] at this; exact this
  have HB0 := Aside0.mk (show bdy W W.op = b0 from hb0)
  clear hb0
  have hw1 : wrap64 ((b0.size : Int) + (s.size : Int)) = (b0.size : Int) + (s.size : Int) := by have := HSL.out; unfold wrap64; omega
  have hwo : wrap64 (W.op + 1) = W.op + 1 := by have := HF.out.op; unfold wrap64; omega
  have hwl : wrap64 (W.low + W.n) = W.low + W.n := by have := HF.out.low; have := HF.out.n; unfold wrap64; omega
  have HBDS := Aside0.mk hbd
  clear hbd
  by_cases hem : b0 = ⟨#[]⟩
  · subst hem
    have t0 : (⟨#[]⟩ : ByteArray).toList.isEmpty = true := by rw [empty_iff]; exact decide_eq_true rfl
    go_upto_region 9 with (fail)
    have HL4 := Aside0.mk HL3.out.drew; have FR4 := Aside0.mk (FR3.out.trans (fr_drew [3] X0_ c))
    clear HL3 FR3
    have c2 := HL4.out.c2; have c3 := HL4.out.c3
    refine start_ (n := 15) (S := fun w' => w'.cell? ⟨gl, 2, none⟩ = some (.int .i64 W.n) ∧ w'.cell? ⟨gl, 3, none⟩ = some (.int .i64 W.low)) (ds := []) #[false, false, false, false, false, false, false, false, false, false, false, false, false, false, false] (by kernel_rfl) rfl rfl ⟨c2, c3⟩ (fun hHeld => ?_)
    refine rgp 0 43 ?_
    refine rgp 1 44 ?_
    refine rgp 2 45 ?_
    refine rgp 3 46 ?_
    refine rgp 4 47 ?_
    refine rgp 5 48 ?_
    refine rgp 6 49 ?_
    refine rgp 8 51 ?_
    refine rgp 9 52 ?_
    refine rgp 10 53 ?_
    refine rgt 7 50 hHeld ?_
    refine rgt 11 54 hHeld ?_
    refine rgp 12 55 ?_
    refine rgp 13 56 ?_
    refine rgp 14 57 ?_
    refine done_ (by kernel_rfl) ?_
    clear hHeld c2 c3
    have HGO := Aside0.mk (show goesW W s.size = (W.op, ⟨#[]⟩) from by unfold goesW; rw [HB0.out, if_neg (fun h => h.1 rfl)])
    by_cases hfu : W.low + W.n ≤ W.op
    · have HAP := Aside0.mk (show appW W s = (0, 5, W) by unfold appW; rw [HGO.out, if_pos ⟨rfl, hfu⟩])
      go_wp2
      go_ret2
      exact ⟨by rw [HA.out, HAP.out]; rfl, FR4.out, by rw [HA.out, HAP.out]; exact HL4.out⟩
    · have HAP := Aside0.mk (show appW W s = ((W.op) * 128 + (((⟨#[]⟩ : ByteArray).size : Nat) : Int), 0, { W with op := W.op, f := fill W.f (W.op) ((⟨#[]⟩ : ByteArray) ++ s) }) by unfold appW; rw [HGO.out, if_neg (fun h => hfu h.2)])
      have HWI := Aside0.mk (show wrap64 ((W.op) * 128) = (W.op) * 128 by have := HF.out.op; unfold wrap64; omega)
      have HWJ := Aside0.mk (show wrap64 ((W.op) * 128 + (((⟨#[]⟩ : ByteArray)).size : Int)) = (W.op) * 128 + (((⟨#[]⟩ : ByteArray)).size : Int) by have := HF.out.op; have := HBDS.out; have : (⟨#[]⟩ : ByteArray).size = 0 := rfl; unfold wrap64; omega)
      have hwi := HWI.out; have hwj := HWJ.out
      generalize X0_.drew = X1_ at *
      have c5 := HL4.out.c5; have f5 := HL4.out.fz 5
      have s1 := HL4.out.set 5 (.int .i64 (W.op)) (W' := { W with op := W.op }) rfl rfl
      have c7 := s1.1.c7
      obtain ⟨ob, hrun, hmp⟩ := run_update_mp (P := Try.prog) (t := 84) (k := 3) (e := 9) (by kernel_rfl) (by kernel_rfl) s1.1.map (W.op) ((⟨#[]⟩ : ByteArray) ++ s)
      have s2 := s1.1.turn hmp
      have HL5 := Aside0.mk s2.1; have FR5 := Aside0.mk ((FR4.out.trans s1.2).trans s2.2)
      clear s1 s2 hmp
      have HCT := Aside0.mk (show s.size ≤ 9223372036854775807 by have := HSL.out; omega)
      have hct0 : (9223372036854775807 < s.size) = False := eq_false (by have := HCT.out; omega)
      have hct1 : (9223372036854775807 < ((⟨#[]⟩ : ByteArray)).size + s.size) = False := eq_false (by have := HSL.out; have := HBDS.out; have : (⟨#[]⟩ : ByteArray).size = 0 := rfl; omega)
      go_wp2
      go_ret2
      refine ⟨?_, FR5.out, ?_⟩
      · rw [HA.out, HAP.out]; first | rfl | (simp [HWI.out, HWJ.out]; done) | (simp [HWI.out, HWJ.out, show (⟨#[]⟩ : ByteArray).size = 0 from rfl])
      · rw [HA.out, HAP.out]; exact HL5.out
  have t0 : b0.toList.isEmpty = false := by rw [empty_iff, decide_eq_false hem]
  by_cases hgt : (112 : Int) < (b0.size : Int) + (s.size : Int)
  · have HGE := Aside0.mk (show goesW W s.size = (W.op + 1, ⟨#[]⟩) by unfold goesW; rw [HB0.out, if_pos ⟨hem, by omega⟩])
    go_upto_region 9 with (fail)
    have HL4 := Aside0.mk HL3.out.drew; have FR4 := Aside0.mk (FR3.out.trans (fr_drew [3] X0_ c))
    clear HL3 FR3
    have c2 := HL4.out.c2; have c3 := HL4.out.c3
    refine start_ (n := 15) (S := fun w' => w'.cell? ⟨gl, 2, none⟩ = some (.int .i64 W.n) ∧ w'.cell? ⟨gl, 3, none⟩ = some (.int .i64 W.low)) (ds := []) #[false, false, false, false, false, false, false, false, false, false, false, false, false, false, false] (by kernel_rfl) rfl rfl ⟨c2, c3⟩ (fun hHeld => ?_)
    refine rgp 0 43 ?_
    refine rgp 1 44 ?_
    refine rgp 2 45 ?_
    refine rgp 3 46 ?_
    refine rgp 4 47 ?_
    refine rgp 5 48 ?_
    refine rgp 6 49 ?_
    refine rgp 8 51 ?_
    refine rgp 9 52 ?_
    refine rgp 10 53 ?_
    refine rgt 7 50 hHeld ?_
    refine rgt 11 54 hHeld ?_
    refine rgp 12 55 ?_
    refine rgp 13 56 ?_
    refine rgp 14 57 ?_
    refine done_ (by kernel_rfl) ?_
    clear hHeld c2 c3
    have HGO := Aside0.mk (show goesW W s.size = ((W.op + 1), ⟨#[]⟩) from HGE.out)
    by_cases hfu : W.low + W.n ≤ (W.op + 1)
    · have HAP := Aside0.mk (show appW W s = (0, 5, W) by unfold appW; rw [HGO.out, if_pos ⟨rfl, hfu⟩])
      go_wp2
      go_ret2
      exact ⟨by rw [HA.out, HAP.out]; rfl, FR4.out, by rw [HA.out, HAP.out]; exact HL4.out⟩
    · have HAP := Aside0.mk (show appW W s = (((W.op + 1)) * 128 + (((⟨#[]⟩ : ByteArray).size : Nat) : Int), 0, { W with op := (W.op + 1), f := fill W.f ((W.op + 1)) ((⟨#[]⟩ : ByteArray) ++ s) }) by unfold appW; rw [HGO.out, if_neg (fun h => hfu h.2)])
      have HWI := Aside0.mk (show wrap64 (((W.op + 1)) * 128) = ((W.op + 1)) * 128 by have := HF.out.op; unfold wrap64; omega)
      have HWJ := Aside0.mk (show wrap64 (((W.op + 1)) * 128 + (((⟨#[]⟩ : ByteArray)).size : Int)) = ((W.op + 1)) * 128 + (((⟨#[]⟩ : ByteArray)).size : Int) by have := HF.out.op; have := HBDS.out; have : (⟨#[]⟩ : ByteArray).size = 0 := rfl; unfold wrap64; omega)
      have hwi := HWI.out; have hwj := HWJ.out
      generalize X0_.drew = X1_ at *
      have c5 := HL4.out.c5; have f5 := HL4.out.fz 5
      have s1 := HL4.out.set 5 (.int .i64 ((W.op + 1))) (W' := { W with op := (W.op + 1) }) rfl rfl
      have c7 := s1.1.c7
      obtain ⟨ob, hrun, hmp⟩ := run_update_mp (P := Try.prog) (t := 84) (k := 3) (e := 9) (by kernel_rfl) (by kernel_rfl) s1.1.map ((W.op + 1)) ((⟨#[]⟩ : ByteArray) ++ s)
      have s2 := s1.1.turn hmp
      have HL5 := Aside0.mk s2.1; have FR5 := Aside0.mk ((FR4.out.trans s1.2).trans s2.2)
      clear s1 s2 hmp
      have HCT := Aside0.mk (show s.size ≤ 9223372036854775807 by have := HSL.out; omega)
      have hct0 : (9223372036854775807 < s.size) = False := eq_false (by have := HCT.out; omega)
      have hct1 : (9223372036854775807 < ((⟨#[]⟩ : ByteArray)).size + s.size) = False := eq_false (by have := HSL.out; have := HBDS.out; have : (⟨#[]⟩ : ByteArray).size = 0 := rfl; omega)
      go_wp2
      go_ret2
      refine ⟨?_, FR5.out, ?_⟩
      · rw [HA.out, HAP.out]; first | rfl | (simp [HWI.out, HWJ.out]; done) | (simp [HWI.out, HWJ.out, show (⟨#[]⟩ : ByteArray).size = 0 from rfl])
      · rw [HA.out, HAP.out]; exact HL5.out
  · have HAP := Aside0.mk (show appW W s = (W.op * 128 + (b0.size : Int), 0, { W with op := W.op, f := fill W.f W.op (b0 ++ s) }) by
      have hgo : goesW W s.size = (W.op, b0) := by unfold goesW; rw [HB0.out, if_neg (fun h => hgt (by omega))]
      unfold appW
      rw [hgo, if_neg (fun h => hem h.1)])
    go_upto_region 9 with (fail)
    have HL4 := Aside0.mk HL3.out.drew; have FR4 := Aside0.mk (FR3.out.trans (fr_drew [3] X0_ c))
    clear HL3 FR3
    have c2 := HL4.out.c2; have c3 := HL4.out.c3
    refine start_ (n := 15) (S := fun w' => w'.cell? ⟨gl, 2, none⟩ = some (.int .i64 W.n) ∧ w'.cell? ⟨gl, 3, none⟩ = some (.int .i64 W.low)) (ds := []) #[false, false, false, false, false, false, false, false, false, false, false, false, false, false, false] (by kernel_rfl) rfl rfl ⟨c2, c3⟩ (fun hHeld => ?_)
    refine rgp 0 43 ?_
    refine rgp 1 44 ?_
    refine rgp 2 45 ?_
    refine pure_ (i := 3) (N := some 46) (v := undef) (a' := ?_) #[true, true, true, true, false, false, false, false, false, false, false, false, false, false, false] rfl rfl (by kernel_rfl) (fun _ _ _ h => h) (Or.inr ⟨by rfl, rfl⟩) ?_ ?_
    rotate_left
    · simp only [Act.put, List.setIfInBounds_toArray, List.set_cons_zero, List.set_cons_succ, i64_w, i32_w]
      rfl
    refine pure_ (i := 4) (N := some 47) (v := undef) (a' := ?_) #[true, true, true, true, true, false, false, false, false, false, false, false, false, false, false] rfl rfl (by kernel_rfl) (fun _ _ _ h => h) (Or.inr ⟨by rfl, rfl⟩) ?_ ?_
    rotate_left
    · simp only [Act.put, List.setIfInBounds_toArray, List.set_cons_zero, List.set_cons_succ, i64_w, i32_w]
      rfl
    refine pure_ (i := 5) (N := some 48) (v := undef) (a' := ?_) #[true, true, true, true, true, true, false, false, false, false, false, false, false, false, false] rfl rfl (by kernel_rfl) (fun _ _ _ h => h) (Or.inr ⟨by rfl, rfl⟩) ?_ ?_
    rotate_left
    · simp only [Act.put, List.setIfInBounds_toArray, List.set_cons_zero, List.set_cons_succ, i64_w, i32_w]
      rfl
    refine pure_ (i := 6) (N := some 49) (v := undef) (a' := ?_) #[true, true, true, true, true, true, true, false, false, false, false, false, false, false, false] rfl rfl (by kernel_rfl) (fun _ _ _ h => h) (Or.inr ⟨by rfl, rfl⟩) ?_ ?_
    rotate_left
    · simp only [Act.put, List.setIfInBounds_toArray, List.set_cons_zero, List.set_cons_succ, i64_w, i32_w]
      rfl
    refine pure_ (i := 7) (N := some 50) (v := undef) (a' := ?_) #[true, true, true, true, true, true, true, true, false, false, false, false, false, false, false] rfl rfl (by kernel_rfl) (fun _ _ _ h => h) (Or.inr ⟨by rfl, rfl⟩) ?_ ?_
    rotate_left
    · simp only [Act.put, List.setIfInBounds_toArray, List.set_cons_zero, List.set_cons_succ, i64_w, i32_w]
      rfl
    refine pure_ (i := 8) (N := some 51) (v := undef) (a' := ?_) #[true, true, true, true, true, true, true, true, true, false, false, false, false, false, false] rfl rfl (by kernel_rfl) (fun _ _ _ h => h) (Or.inr ⟨by rfl, rfl⟩) ?_ ?_
    rotate_left
    · simp only [Act.put, List.setIfInBounds_toArray, List.set_cons_zero, List.set_cons_succ, i64_w, i32_w]
      rfl
    refine pure_ (i := 9) (N := some 52) (v := undef) (a' := ?_) #[true, true, true, true, true, true, true, true, true, true, false, false, false, false, false] rfl rfl (by kernel_rfl) (fun _ _ _ h => h) (Or.inr ⟨by rfl, rfl⟩) ?_ ?_
    rotate_left
    · simp only [Act.put, List.setIfInBounds_toArray, List.set_cons_zero, List.set_cons_succ, i64_w, i32_w]
      rfl
    refine pure_ (i := 10) (N := some 53) (v := undef) (a' := ?_) #[true, true, true, true, true, true, true, true, true, true, true, false, false, false, false] rfl rfl (by kernel_rfl) (fun _ _ _ h => h) (Or.inr ⟨by rfl, rfl⟩) ?_ ?_
    rotate_left
    · simp only [Act.put, List.setIfInBounds_toArray, List.set_cons_zero, List.set_cons_succ, i64_w, i32_w]
      rfl
    refine pure_ (i := 11) (N := some 54) (v := undef) (a' := ?_) #[true, true, true, true, true, true, true, true, true, true, true, true, false, false, false] rfl rfl (by kernel_rfl) (fun _ _ _ h => h) (Or.inr ⟨by rfl, rfl⟩) ?_ ?_
    rotate_left
    · simp only [Act.put, List.setIfInBounds_toArray, List.set_cons_zero, List.set_cons_succ, i64_w, i32_w]
      rfl
    refine pure_ (i := 12) (N := some 55) (v := undef) (a' := ?_) #[true, true, true, true, true, true, true, true, true, true, true, true, true, false, false] rfl rfl (by kernel_rfl) (fun _ _ _ h => h) (Or.inr ⟨by rfl, rfl⟩) ?_ ?_
    rotate_left
    · simp only [Act.put, List.setIfInBounds_toArray, List.set_cons_zero, List.set_cons_succ, i64_w, i32_w]
      rfl
    refine pure_ (i := 13) (N := some 56) (v := undef) (a' := ?_) #[true, true, true, true, true, true, true, true, true, true, true, true, true, true, false] rfl rfl (by kernel_rfl) (fun _ _ _ h => h) (Or.inr ⟨by rfl, rfl⟩) ?_ ?_
    rotate_left
    · simp only [Act.put, List.setIfInBounds_toArray, List.set_cons_zero, List.set_cons_succ, i64_w, i32_w]
      rfl
    refine rgp 14 57 ?_
    refine done_ (by kernel_rfl) ?_
    clear hHeld c2 c3
    have HWI := Aside0.mk (show wrap64 ((W.op) * 128) = (W.op) * 128 by have := HF.out.op; unfold wrap64; omega)
    have HWJ := Aside0.mk (show wrap64 ((W.op) * 128 + ((b0).size : Int)) = (W.op) * 128 + ((b0).size : Int) by have := HF.out.op; have := HBDS.out; have : (⟨#[]⟩ : ByteArray).size = 0 := rfl; unfold wrap64; omega)
    have hwi := HWI.out; have hwj := HWJ.out
    generalize X0_.drew = X1_ at *
    have c5 := HL4.out.c5; have f5 := HL4.out.fz 5
    have s1 := HL4.out.set 5 (.int .i64 (W.op)) (W' := { W with op := W.op }) rfl rfl
    have c7 := s1.1.c7
    obtain ⟨ob, hrun, hmp⟩ := run_update_mp (P := Try.prog) (t := 84) (k := 3) (e := 9) (by kernel_rfl) (by kernel_rfl) s1.1.map (W.op) (b0 ++ s)
    have s2 := s1.1.turn hmp
    have HL5 := Aside0.mk s2.1; have FR5 := Aside0.mk ((FR4.out.trans s1.2).trans s2.2)
    clear s1 s2 hmp
    have HCT := Aside0.mk (show s.size ≤ 9223372036854775807 by have := HSL.out; omega)
    have hct0 : (9223372036854775807 < s.size) = False := eq_false (by have := HCT.out; omega)
    have hct1 : (9223372036854775807 < (b0).size + s.size) = False := eq_false (by have := HSL.out; have := HBDS.out; have : (⟨#[]⟩ : ByteArray).size = 0 := rfl; omega)
    go_wp2
    go_ret2
    refine ⟨?_, FR5.out, ?_⟩
    · rw [HA.out, HAP.out]; first | rfl | (simp [HWI.out, HWJ.out]; done) | (simp [HWI.out, HWJ.out, show (⟨#[]⟩ : ByteArray).size = 0 from rfl])
    · rw [HA.out, HAP.out]; exact HL5.out
end
end Go.Proofs.Ytbnglmeljbiglaa.Wl
set_option maxRecDepth 8192
namespace Go.Proofs.Ytbnglmeljbiglaa.Wl
open Go.Proofs.Ytbnglmeljbiglaa.Rgn
open Go Go.RowKit Go.ChangeMaps Go.Proofs.Ytbnglmeljbiglaa.Arr Go.Proofs.Ytbnglmeljbiglaa.Mp Go.Proofs.Ytbnglmeljbiglaa.Ow Go.Proofs.Ytbnglmeljbiglaa.Dk Go.Proofs.Ytbnglmeljbiglaa.Fr Go.Proofs.YtbnglmeljbiglaaW.PrintWords Go.Proofs.YtbnglmeljbiglaaW.PrintLast Go.Proofs.YtbnglmeljbiglaaW.PrintMore
set_option linter.unusedVariables false
set_option linter.unusedSimpArgs false
section
variable {w : World} {c : Nat → Nat} {gl m g N : Nat} {W : WS} {d : DS}
theorem dwrite_o (h : DK w (Col c 1) g d) (ho : OkN N d) (i : Int) (s : ByteArray) : Calls Try.prog 48 #[.pointer (some ⟨g, 0, none⟩), .int .i64 i, .string s] w fun x w' => x = .returned (.int .i64 (writeE d i s)) ∧ ∃ c', Fr [1] w c w' c' ∧ DK w' (Col c' 1) g (writeD d i s) := by
  refine (write_calls d g i s (Col (Dk.paint c w.heap.size 1) 1) w (top_paint c w 1) (h.mono fun k hk e => (paint_old hk).trans e) ho.ok).mono ?_
  rintro x w' ⟨rfl, hk, hf⟩
  exact ⟨rfl, _, fr_disk hf, hk⟩
theorem dsync_o (h : DK w (Col c 1) g d) (ho : OkN N d) : Calls Try.prog 50 #[.pointer (some ⟨g, 0, none⟩)] w fun x w' => x = .returned (.int .i64 (syncE d)) ∧ ∃ c', Fr [1] w c w' c' ∧ DK w' (Col c' 1) g (syncD d) := by
  refine (sync_calls d g (Col (Dk.paint c w.heap.size 1) 1) w (top_paint c w 1) (h.mono fun k hk e => (paint_old hk).trans e) ho.ok).mono ?_
  rintro x w' ⟨rfl, hk, hf⟩
  exact ⟨rfl, _, fr_disk hf, hk⟩
/-- The bytes of a sector of the log. -/
def secW (W : WS) (i : Int) : ByteArray := (X12.packI W.ep i (bdy W i)).1
/-- The writes of a Flush: the error, the next sector, the disk. -/
def flushL (W : WS) : Nat → Int → DS → Int × Int × DS
  | 0, i, d => (0, i, d)
  | k + 1, i, d => if i ≤ W.op ∧ bdy W i ≠ ⟨#[]⟩ then (if writeE d (placeW W i) (secW W i) ≠ 0 then (writeE d (placeW W i) (secW W i), i, writeD d (placeW W i) (secW W i)) else flushL W k (i + 1) (writeD d (placeW W i) (secW W i))) else (0, i, d)
def flushR (W : WS) (d : DS) : Int × Int × DS := flushL W (W.op + 1 - W.first).toNat W.first d
/-- What Flush does: the error, the log, the disk. -/
def flushW (W : WS) (d : DS) : Int × WS × DS :=
  if (flushR W d).1 ≠ 0 then ((flushR W d).1, W, (flushR W d).2.2)
  else if (flushR W d).2.1 = W.first then (0, W, (flushR W d).2.2)
  else if syncE (flushR W d).2.2 ≠ 0 then (syncE (flushR W d).2.2, W, syncD (flushR W d).2.2)
  else (0, { W with first := (flushR W d).2.1, op := (flushR W d).2.1 }, syncD (flushR W d).2.2)
theorem pack_fine {e i : Int} {b : ByteArray} (he : 0 ≤ e ∧ e < 4294967296) (hi : 0 ≤ i ∧ i < 4294967296) (hb : b.size ≤ 112) : X12.packI e i b = ((X12.packI e i b).1, 0) := by
  rw [← (X12.packI_bl e i b he hi hb).2]
set_option maxHeartbeats 16000000 in
theorem flush_calls (h : LO w c gl m g W) (hd : DK w (Col c 1) g d) (ho : OkN N d) (hN : N ≤ 1000) (F : Fit W) (hbd : ∀ i, (bdy W i).size ≤ 112) (hop : W.op ≤ 100000000) (hgap : W.first ≤ W.op + 1 ∧ W.op - W.first ≤ 1000) :
    Calls Try.prog 16 #[.pointer (some ⟨gl, 0, none⟩)] w fun e w' => e = .returned (.int .i64 (flushW W d).1) ∧ ∃ c', Fr [1, 3] w c w' c' ∧ LO w' c' gl m g (flushW W d).2.1 ∧ DK w' (Col c' 1) g (flushW W d).2.2 ∧ OkN (N + 1100) (flushW W d).2.2 := by
  have HL := Aside0.mk h; have HD := Aside0.mk hd; have HO := Aside0.mk ho; have HNN := Aside0.mk hN; have HF := Aside0.mk F; have HBD := Aside0.mk hbd; have HOP := Aside0.mk hop; have HGP := Aside0.mk hgap
  have FR := Aside0.mk (Fr.refl [1] w c)
  have c4 := h.c4
  clear h hd ho hN F hbd hop hgap
  obtain ⟨Re, Rn, Rd, hR⟩ : ∃ a b e, flushR W d = (a, b, e) := ⟨_, _, _, rfl⟩
  have HR := Aside0.mk hR
  have HRL := Aside0.mk (show flushL W (W.op + 1 - W.first).toNat W.first d = (Re, Rn, Rd) from hR)
  clear hR
  have HK0 := Aside0.mk (show (((W.op + 1 - W.first).toNat : Nat) : Int) = W.op + 1 - W.first by have := HGP.out; omega)
  go_enter Try.func16, Try.ntmps16
  go_upto_region 4 with (fail)
  clear c4
  go_loopw [3] (fun nv wr => ∃ (j k : Nat) (dk : DS) (c' : Nat → Nat), nv = .int .i64 (W.first + j) ∧ Aside0 (j + k = (W.op + 1 - W.first).toNat) ∧ Aside0 (LO wr c' gl m g W) ∧ Aside0 (DK wr (Col c' 1) g dk) ∧ Aside0 (Fr [1] w c wr c') ∧ Aside0 (OkN (N + j) dk) ∧ Aside0 (flushL W k (W.first + j) dk = (Re, Rn, Rd))) (fun nv _ => (W.op + 1).toNat - (intOf nv).toNat)
  case atStart => exact ⟨0, (W.op + 1 - W.first).toNat, d, c, by rw [show W.first + ((0 : Nat) : Int) = W.first by omega], ⟨by omega⟩, HL, HD, FR, ⟨HO.out⟩, ⟨by rw [show W.first + ((0 : Nat) : Int) = W.first by omega]; exact HRL.out⟩⟩
  case round =>
    clear HL HD FR HO HRL
    obtain ⟨j, k, dk, c1, rfl, JK, HL, HD, FR, HO, HRL⟩ := hrel
    have HI := Aside0.mk (show 0 ≤ W.first + (j : Int) ∧ W.first + (j : Int) ≤ W.op + 1 by have := HF.out.first; have := JK.out; have := HK0.out; omega)
    have c5 := HL.out.c5; have c7 := HL.out.c7
    have hl := run_lookup0 HL.out.map (W.first + j)
    obtain ⟨i, hi⟩ : ∃ i : Int, i = W.first + (j : Int) := ⟨_, rfl⟩
    rw [← hi] at HI HRL hl ⊢
    have HIJ := Aside0.mk hi
    clear hi
    obtain ⟨b, hb⟩ : ∃ b, b = bdy W i := ⟨_, rfl⟩
    have HBI := Aside0.mk hb
    rw [show (W.f i).getD ⟨#[]⟩ = b from hb.symm] at hl
    clear hb
    by_cases hgo : i ≤ W.op ∧ b ≠ ⟨#[]⟩
    · obtain ⟨h1, h2⟩ := hgo
      have HLE := Aside0.mk h1; have HNE := Aside0.mk h2
      have t0 : b.toList.isEmpty = false := by rw [empty_iff, decide_eq_false h2]
      obtain ⟨k, rfl⟩ : ∃ q, k = q + 1 := ⟨k - 1, by have := JK.out; have := HK0.out; have := HIJ.out; omega⟩
      clear h2
      go_upto_region 6 with (fail)
      have HL1 := Aside0.mk HL.out.drew; have HD1 := Aside0.mk HD.out.drew; have FR1 := Aside0.mk (FR.out.trans (fr_drew [1] wr c1))
      clear HL HD FR c5 c7 hl h1
      have c6 := HL1.out.c6; have c7 := HL1.out.c7
      have HWI := Aside0.mk (show IntKind.u32.wrap i = i by rw [IntKind.wrap_u32]; exact Int.emod_eq_of_lt HI.out.1 (by have := HLE.out; have := HOP.out; omega))
      refine start_ (n := 19) (S := fun w' => w'.cell? ⟨gl, 6, none⟩ = some (.int .u32 W.ep) ∧ w'.cell? ⟨gl, 7, none⟩ = some (.map (some m))) (ds := []) #[false, false, false, false, false, false, false, false, false, false, false, false, false, false, false, false, false, false, false] (by kernel_rfl) rfl rfl ⟨c6, c7⟩ (fun hHeld => ?_)
      refine rgp 0 31 ?_
      refine rgp 1 32 ?_
      refine rgp 2 33 ?_
      refine rgp 4 35 ?_
      refine rgp 5 36 ?_
      refine rgp 6 37 ?_
      refine rgp 7 38 ?_
      refine rgp 8 39 ?_
      refine rgp 10 41 ?_
      refine rgt 3 34 hHeld ?_
      refine rgt 9 40 hHeld ?_
      refine one_ (i := 11) (N := some 42) #[true, true, true, true, true, true, true, true, true, true, true, true, false, false, false, false, false, false, false] rfl rfl (by kernel_rfl) (by decide) (fun K hK => ?_)
      generalize wr.drew = X0_ at *
      have hl := run_lookup0 HL1.out.map i
      rw [show (W.f i).getD ⟨#[]⟩ = b from HBI.out.symm] at hl
      refine value_ (w1 := ?_) (v := ?_) (by kernel_rfl) rfl ?_ ?_
      rotate_left 2
      · go_simp
        constructor
        · rfl
        · rfl
      refine hK _ _ hHeld (fun hHeld => ?_)
      clear hK K hl
      refine norm_ (a' := ?_) ?_ ?_
      rotate_left
      · show Act.put _ (some 42) _ = _
        simp only [Act.put, List.setIfInBounds_toArray, List.set_cons_zero, List.set_cons_succ, i64_w, i32_w]
        rfl
      refine rgp 12 43 ?_
      refine one_ (i := 13) (N := some 44) #[true, true, true, true, true, true, true, true, true, true, true, true, true, true, false, false, false, false, false] rfl rfl (by kernel_rfl) (by decide) (fun K hK => ?_)
      refine goes_ Try.func47 (by kernel_rfl) rfl #[.agg #[.int .u32 W.ep, .int .u32 (IntKind.u32.wrap i), .string b]] (by rfl) rfl rfl (by (try simp only [List.map_toArray, List.map_cons, List.map_nil]); first | done | rfl) ?_
      rw [HWI.out]
      refine (X12.pack_calls W.ep i b HF.out.ep ⟨HI.out.1, by have := HLE.out; have := HOP.out; omega⟩ _).mono ?_
      rintro e v1_ ⟨rfl, hb1⟩
      rw [pack_fine HF.out.ep ⟨HI.out.1, by have := HLE.out; have := HOP.out; omega⟩ (by rw [HBI.out]; exact HBD.out i)]
      refine ⟨_, rfl, ?_⟩
      have HL2 := Aside0.mk (HL1.out.below hb1); have HD2 := Aside0.mk (HD1.out.below hb1); have FR2 := Aside0.mk (FR1.out.trans (Fr.of_below (M := [1]) hb1))
      clear HL1 HD1 FR1 hb1
      refine hK _ _ ⟨HL2.out.c6, HL2.out.c7⟩ (fun hHeld => ?_)
      clear hK K
      refine norm_ (a' := ?_) ?_ ?_
      rotate_left
      · show Act.put _ (some 44) _ = _
        simp only [Act.put, List.setIfInBounds_toArray, List.set_cons_zero, List.set_cons_succ, i64_w, i32_w]
        rfl
      refine rgp 14 30 ?_
      refine rgp 15 45 ?_
      refine rgp 16 46 ?_
      refine rgp 17 4 ?_
      refine rgp 18 5 ?_
      refine done_ (by kernel_rfl) ?_
      clear hHeld c6 c7
      have HSW := Aside0.mk (show (X12.packI W.ep i b).1 = secW W i by unfold secW; rw [HBI.out])
      simp only [HSW.out]
      have hff := HRL.out
      unfold flushL at hff
      rw [if_pos ⟨HLE.out, by rw [← HBI.out]; exact HNE.out⟩] at hff
      generalize secW W i = s at *
      go_upto_region 8 with (fail)
      have HL3 := Aside0.mk HL2.out.drew; have HD3 := Aside0.mk HD2.out.drew; have FR3 := Aside0.mk (FR2.out.trans (fr_drew [1] v1_ c1))
      clear HL2 HD2 FR2
      have c0 := HL3.out.c0
      have HFF := Aside0.mk hff
      clear hff
      refine start_ (n := 10) (S := fun w' => w'.cell? ⟨gl, 0, none⟩ = some (.pointer (some ⟨g, 0, none⟩))) (ds := [8]) #[false, false, false, false, false, false, false, false, false, false] (by kernel_rfl) rfl rfl c0 (fun hHeld => ?_)
      refine rgp 0 49 ?_
      refine rgp 1 50 ?_
      refine rgp 2 51 ?_
      refine rgp 4 53 ?_
      refine rgp 5 54 ?_
      refine rgp 7 56 ?_
      refine rgt 3 52 hHeld ?_
      refine one_ (i := 6) (N := some 55) #[true, true, true, true, true, true, true, true, false, false] rfl rfl (by kernel_rfl) (by decide) (fun K hK => ?_)
      generalize v1_.drew = X1_ at *
      refine goes_ Try.func49 (by kernel_rfl) rfl #[.pointer (some ⟨gl, 0, none⟩), .int .i64 i] (by rfl) rfl rfl (by (try simp only [List.map_toArray, List.map_cons, List.map_nil]); first | done | rfl) ?_
      refine (place_calls HL3.out HF.out i HI.out.1).mono ?_
      rintro e v1_y ⟨rfl, hb1⟩
      refine ⟨_, rfl, ?_⟩
      have HL4 := Aside0.mk (HL3.out.below hb1); have HD4 := Aside0.mk (HD3.out.below hb1); have FR4 := Aside0.mk (FR3.out.trans (Fr.of_below (M := [1]) hb1))
      clear HL3 HD3 FR3 hb1
      refine hK _ _ HL4.out.c0 (fun hHeld => ?_)
      clear hK K
      refine norm_ (a' := ?_) ?_ ?_
      rotate_left
      · show Act.put _ (some 55) _ = _
        simp only [Act.put, List.setIfInBounds_toArray, List.set_cons_zero, List.set_cons_succ, i64_w, i32_w]
        rfl
      refine last_ (i := 8) (N := some 57) #[true, true, true, true, true, true, true, true, true, false] rfl rfl (by kernel_rfl) (by decide) (fun K hK => ?_)
      refine goes_ Try.func48 (by kernel_rfl) rfl #[.pointer (some ⟨g, 0, none⟩), .int .i64 (placeW W i), .string s] (by rfl) rfl rfl (by (try simp only [List.map_toArray, List.map_cons, List.map_nil]); first | done | rfl) ?_
      refine (dwrite_o HD4.out HO.out (placeW W i) s).mono ?_
      rintro e v9_ ⟨rfl, c2, hf, hd⟩
      refine ⟨_, rfl, ?_⟩
      have HL5 := Aside0.mk (HL4.out.keep hf (by decide)); have HD5 := Aside0.mk hd; have FR5 := Aside0.mk (FR4.out.trans hf)
      clear HL4 HD4 FR4 hf hd
      refine hK _ _ ?_
      clear hK K
      refine norm_ (a' := ?_) ?_ ?_
      rotate_left
      · show Act.put _ (some 57) _ = _
        simp only [Act.put, List.setIfInBounds_toArray, List.set_cons_zero, List.set_cons_succ, i64_w, i32_w]
        rfl
      refine rgp 9 5 ?_
      refine done_ (by kernel_rfl) ?_
      clear hHeld c0
      (try simp only [Exit.inBlock, Exit.then])
      have hok := ok_write (i := placeW W i) (s := s) HO.out (by have := HNN.out; have := JK.out; have := HK0.out; have := HGP.out; omega)
      have HO5 := Aside0.mk hok; clear hok HO
      generalize hwe : writeE dk (placeW W i) s = we at *
      generalize writeD dk (placeW W i) s = wd at *
      clear hwe
      by_cases he : we = 0
      · have e0 : (we != 0) = false := by simpa using he
        have e1 : (we == 0) = true := by simpa using he
        have HFF2 := Aside0.mk (show flushL W k (i + 1) wd = (Re, Rn, Rd) by have := HFF.out; rw [if_neg (fun h => h he)] at this; exact this)
        have hwk : wrap64 (i + 1) = i + 1 := by have := HLE.out; have := HOP.out; have := HI.out; unfold wrap64; omega
        clear he
        go_wp2
        go_roundw
        case rel => exact ⟨j + 1, k, wd, c2, by first | (rw [HIJ.out]; congr 1; omega) | (rw [hwk, HIJ.out]; congr 1; omega), ⟨by have := JK.out; omega⟩, HL5, HD5, FR5, ⟨HO5.out⟩, ⟨by rw [show W.first + ((j + 1 : Nat) : Int) = i + 1 by rw [HIJ.out]; omega]; exact HFF2.out⟩⟩
        case measure =>
          have := HLE.out; have := HI.out
          (try rw [hwk])
          simp only [intOf]; omega
      · have e0 : (we != 0) = true := by simpa using he
        have e1 : (we == 0) = false := by simpa using he
        have HQ := Aside0.mk (show (we, i, wd) = (Re, Rn, Rd) by have := HFF.out; rw [if_pos he] at this; exact this)
        have HWE := Aside0.mk he
        clear he
        go_wp2
        go_ret
        have hq := HQ.out
        have hfw : flushW W d = (we, W, wd) := by
          unfold flushW
          rw [HR.out, ← hq]
          rw [if_pos HWE.out]
        rw [hfw]
        exact ⟨rfl, c2, FR5.out.mono (by decide), HL5.out, HD5.out, HO5.out.mono (by have := JK.out; have := HK0.out; have := HGP.out; omega)⟩
    · have HQ := Aside0.mk (show (0, i, dk) = (Re, Rn, Rd) by
        have := HRL.out
        cases k with
        | zero => exact this
        | succ k => unfold flushL at this; rw [if_neg (by rw [← HBI.out]; exact hgo)] at this; exact this)
      have HLO := Aside0.mk HL.out
      have hcase : (i ≤ W.op ∧ b.toList.isEmpty = true) ∨ ¬ i ≤ W.op := by
        by_cases h : i ≤ W.op
        · refine .inl ⟨h, ?_⟩
          rw [empty_iff, decide_eq_true_iff]
          exact Classical.byContradiction fun h2 => hgo ⟨h, h2⟩
        · exact .inr h
      clear hgo
      have c4 := HL.out.c4; have c0 := HL.out.c0
      by_cases hfi : i = W.first
      · have e0 : (i == W.first) = true := beq_iff_eq.2 hfi
        have HFW := Aside0.mk (show flushW W d = (0, W, dk) by
          unfold flushW
          rw [HR.out, ← HQ.out]
          rw [if_neg (fun h => h rfl), if_pos hfi])
        clear hfi
        rcases hcase with ⟨t1, t2⟩ | t1
        all_goals
          go_wp2
          go_ret
          rw [HFW.out]
          exact ⟨rfl, c1, FR.out.mono (by decide), HL.out, HD.out, HO.out.mono (by have := JK.out; have := HK0.out; have := HGP.out; omega)⟩
      · have e0 : (i == W.first) = false := beq_eq_false_iff_ne.2 hfi
        have HFW := Aside0.mk (show flushW W d = if syncE dk ≠ 0 then (syncE dk, W, syncD dk) else (0, { W with first := i, op := i }, syncD dk) by
          unfold flushW
          rw [HR.out, ← HQ.out]
          rw [if_neg (fun h => h rfl), if_neg hfi])
        clear hfi
        have HOS := Aside0.mk (ok_sync HO.out)
        generalize hse : syncE dk = se at *
        generalize hsd : syncD dk = sd at *
        by_cases he : se = 0
        · have e1 : (se != 0) = false := by simpa using he
          have HFX := Aside0.mk (show flushW W d = (0, { W with first := i, op := i }, sd) by rw [HFW.out, if_neg (fun h => h he)])
          clear he
          rcases hcase with ⟨t1, t2⟩ | t1
          all_goals
            have hsy := dsync_o HD.out HO.out
            rw [hse, hsd] at hsy
            have HSY := Aside0.mk hsy; clear hsy
            go_upto_region 14 with (go_at_call 50; (with_reducible refine HSY.out.mono ?_); rintro e w1 ⟨rfl, c2, hf, hd⟩; have HL5 := Aside0.mk (HL.out.keep hf (by decide)); have HD5 := Aside0.mk hd; have FR5 := Aside0.mk (FR.out.trans hf); clear hf hd)
            clear c0 c4 c5 c7 hl
            have f4 := HL5.out.fz 4; have f5 := HL5.out.fz 5; have c4 := HL5.out.c4; have c5 := HL5.out.c5
            have s1 := HL5.out.set 4 (.int .i64 i) (W' := { W with first := i }) rfl rfl
            have c5b := s1.1.c5; have f5b := s1.1.fz 5
            have s2 := s1.1.set 5 (.int .i64 i) (W' := { W with first := i, op := i }) rfl rfl
            have HL6 := Aside0.mk s2.1; have HD6 := Aside0.mk (dk_keep HD5.out (s1.2.trans s2.2) (by decide)); have FR6 := Aside0.mk ((FR5.out.mono (M2 := [1, 3]) (by decide)).trans ((s1.2.trans s2.2).mono (by decide)))
            clear s1 s2
            go_wp2
            go_ret
            rw [HFX.out]
            exact ⟨rfl, c2, FR6.out, HL6.out, HD6.out, HOS.out.mono (by have := JK.out; have := HK0.out; have := HGP.out; omega)⟩
        · have e1 : (se != 0) = true := by simpa using he
          have HFX := Aside0.mk (show flushW W d = (se, W, sd) by rw [HFW.out, if_pos he])
          clear he
          rcases hcase with ⟨t1, t2⟩ | t1
          all_goals
            have hsy := dsync_o HD.out HO.out
            rw [hse, hsd] at hsy
            have HSY := Aside0.mk hsy; clear hsy
            go_upto_region 14 with (go_at_call 50; (with_reducible refine HSY.out.mono ?_); rintro e w1 ⟨rfl, c2, hf, hd⟩; have HL5 := Aside0.mk (HL.out.keep hf (by decide)); have HD5 := Aside0.mk hd; have FR5 := Aside0.mk (FR.out.trans hf); clear hf hd)
            clear c0 c4 c5 c7 hl
            go_wp2
            go_ret
            rw [HFX.out]
            exact ⟨rfl, c2, FR5.out.mono (by decide), HL5.out, HD5.out, HOS.out.mono (by have := JK.out; have := HK0.out; have := HGP.out; omega)⟩
end
end Go.Proofs.Ytbnglmeljbiglaa.Wl
set_option maxRecDepth 8192
namespace Go.Proofs.Ytbnglmeljbiglaa.Wl
open Go.Proofs.Ytbnglmeljbiglaa.X4 Go.Proofs.Ytbnglmeljbiglaa.Pt Go.Proofs.Ytbnglmeljbiglaa.Ptb Go Go.RowKit Go.ChangeMaps Go.Proofs.Ytbnglmeljbiglaa.Arr Go.Proofs.Ytbnglmeljbiglaa.Mp Go.Proofs.Ytbnglmeljbiglaa.Ow Go.Proofs.Ytbnglmeljbiglaa.Dk Go.Proofs.Ytbnglmeljbiglaa.Fr Go.Proofs.YtbnglmeljbiglaaW.PrintWords Go.Proofs.YtbnglmeljbiglaaW.PrintLast Go.Proofs.YtbnglmeljbiglaaW.PrintMore
set_option linter.unusedVariables false
set_option linter.unusedSimpArgs false
abbrev En_ := S44
def shiftE (i : Int) (x : En_) : En_ := ⟨x.f0 + i * 128, x.f1⟩
/-- The records of a sector, with their places. -/
def entL (i : Int) (b : ByteArray) : List En_ := (allS b).map (shiftE i)
theorem allL_at {s : ByteArray} : ∀ (n : Nat) (p : Int) (l : List En_), 0 ≤ p → allL s n p = some l → ∀ x ∈ l, 0 ≤ x.f0 ∧ x.f0 < s.size := by
  intro n
  induction n with
  | zero => intro p l _ h; cases h
  | succ n ih =>
    intro p l hp h
    unfold allL at h
    split at h
    · rename_i hlt
      split at h
      · rename_i e
        obtain ⟨t, ht, rfl⟩ := Option.map_eq_some_iff.1 h
        intro x hx
        rcases List.mem_cons.1 hx with rfl | hx
        · exact ⟨hp, hlt⟩
        · obtain ⟨bs, q, p0, -, -, -, -, hn2, hs2, hl⟩ := read_some e
          exact ih _ _ (by omega) ht x hx
      · cases h
    · injection h with h; subst h; intro x hx; cases hx
theorem allS_at {s : ByteArray} : ∀ x ∈ allS s, 0 ≤ x.f0 ∧ x.f0 < s.size := by
  intro x hx
  unfold allS at hx
  cases h : allF s with
  | none => rw [h] at hx; cases hx
  | some l => rw [h] at hx; exact allL_at _ 0 _ (by omega) h x hx
/-- The first j are shifted. -/
def partE (i : Int) (L : List En_) (j : Nat) : List En_ := (L.take j).map (shiftE i) ++ L.drop j
theorem partE_0 (i : Int) (L : List En_) : partE i L 0 = L := by unfold partE; simp
theorem partE_all (i : Int) (L : List En_) : partE i L L.length = L.map (shiftE i) := by unfold partE; simp
theorem partE_len (i : Int) (L : List En_) {j : Nat} (h : j ≤ L.length) : (partE i L j).length = L.length := by unfold partE; simp; omega
theorem partE_get (i : Int) (L : List En_) {j : Nat} (h : j < L.length) (z : En_) : (partE i L j).getD j z = L.getD j z := by
  unfold partE
  rw [List.getD_eq_getElem?_getD, List.getD_eq_getElem?_getD, List.getElem?_append_right (by simp; omega)]
  simp [show min j L.length = j by omega]
theorem partE_set (i : Int) (L : List En_) {j : Nat} (h : j < L.length) (z : En_) : (partE i L j).set j (shiftE i (L.getD j z)) = partE i L (j + 1) := by
  unfold partE
  rw [List.set_append_right _ _ (by simp; omega), List.getD_eq_getElem?_getD, List.getElem?_eq_getElem h]
  rw [show j - ((L.take j).map (shiftE i)).length = 0 by simp; omega, List.drop_eq_getElem_cons h, List.set_cons_zero, List.map_take, List.map_take, List.take_add_one (i := j)]
  simp [h]
theorem cells_one (w : World) (g o : Nat) (u : Value) : w.setCells g o [u] = w.setCell ⟨g, o, none⟩ u := rfl
section
variable {w : World} {c : Nat → Nat} {gl m g N : Nat} {W : WS}
set_option maxHeartbeats 8000000 in
theorem entries_calls (h : LO w c gl m g W) (i : Int) (hi : -1000000000000 ≤ i ∧ i ≤ 1000000000000) (hbd : (bdy W i).size ≤ 1000) :
    Calls Try.prog 55 #[.pointer (some ⟨gl, 0, none⟩), .int .i64 i] w fun e w' => ∃ v : Value, e = .returned v ∧ Kd.R X4.k44 44 w' w.heap.size (fun _ => True) v (entL i (bdy W i)) ∧ Below w.heap.size w w' := by
  have c7 := h.c7
  have hl := run_lookup0 h.map i
  have HBD := Aside0.mk hbd; have HI := Aside0.mk hi
  unfold entL bdy
  rw [show bdy W i = (W.f i).getD ⟨#[]⟩ from rfl] at HBD
  generalize (W.f i).getD ⟨#[]⟩ = b at *
  clear h hbd
  have HAT := Aside0.mk (allS_at (s := b))
  go_enter Try.func55, Try.ntmps55
  go_upto_region 2 with (go_at_call 73; (with_reducible refine (all_calls b (by have := HBD.out; omega) _).mono ?_); rintro e w1 ⟨v, rfl, hv, hb1⟩; have HV := Aside0.mk (Kd.S_R hv); have HB := Aside0.mk hb1; clear hv hb1)
  clear c7 hl
  generalize hL : allS b = L at *
  have HLL := Aside0.mk hL
  clear hL
  obtain ⟨A, cp, rfl, _⟩ := Kd.R_reads HV.out
  have hm : L.length ≤ 9223372036854775807 := (Kd.R_reads' HV.out).2.2.2.1
  go_upto_region 3 with (fail)
  go_loopw [20] (fun kv wr => ∃ j : Nat, kv = .int .i64 j ∧ Aside0 (j ≤ L.length) ∧ Aside0 (Kd.R X4.k44 44 wr w.heap.size (fun _ => True) (.slice A L.length cp) (partE i L j)) ∧ Aside0 (Below w.heap.size w wr)) (fun kv _ => L.length - (intOf kv).toNat)
  case atStart => exact ⟨0, rfl, ⟨Nat.zero_le _⟩, ⟨by rw [partE_0]; exact HV.out⟩, HB⟩
  case round =>
    clear HV HB
    obtain ⟨j, rfl, J, HV, HB⟩ := hrel
    by_cases hlt : j < L.length
    · have h1 : (j : Int) < (L.length : Int) := by omega
      have hwk : wrap64 ((j : Int) + 1) = ((j + 1 : Nat) : Int) := by unfold wrap64; omega
      have HLT := Aside0.mk hlt
      obtain ⟨gv, cap, hge, hb, hgl, cells, hcells⟩ := Kd.R_form HV.out (by rw [partE_len i L (by omega)]; omega)
      rw [partE_len i L (by omega)] at hge
      injection hge with hA _ hc
      subst hA; subst hc
      obtain ⟨cs, hcl, hM, hcc, hfz⟩ := Kd.R_elem HV.out X4.z44 (j : Int) (by omega) h1
      rw [Int.toNat_natCast, partE_get i L hlt] at hM
      rw [Int.toNat_natCast] at hcc hfz
      obtain ⟨x, hx⟩ : ∃ x, x = L.getD j X4.z44 := ⟨_, rfl⟩
      rw [← hx] at hM
      have hxm : x ∈ L := by rw [hx, List.getD_eq_getElem?_getD, List.getElem?_eq_getElem hlt]; exact List.getElem_mem hlt
      have hxa := HAT.out x hxm
      obtain ⟨v10, v11, rfl, m10, m11⟩ := X4.k44_openM hM
      have q0 : wr.cell? ⟨gv, j * 12, none⟩ = some (.int .i64 x.f0) := hcc 0 _ rfl
      have z0 : wr.frozen? ⟨gv, j * 12, none⟩ = false := hfz 0
      have hw1 : wrap64 (i * 128) = i * 128 := by have := HI.out; unfold wrap64; omega
      have hw2 : wrap64 (x.f0 + i * 128) = x.f0 + i * 128 := by have := HI.out; have := HBD.out; unfold wrap64; omega
      have hseg := Kd.R_seg HV.out (j : Int) (by omega) h1 (seg := [.int .i64 (x.f0 + i * 128)]) (j := 0) (x' := shiftE i x) hcl (by rw [Int.toNat_natCast]; exact hcc) (by rw [← hcl]; simp) (X4.k44_mkM wr w.heap.size _ (shiftE i x) m10 m11) (fun k hk => hk)
      rw [Int.toNat_natCast, hx, partE_set i L hlt, cells_one] at hseg
      rw [← hx] at hseg
      have HV2 := Aside0.mk hseg.1
      have HB2 := Aside0.mk (HB.out.setCell (p := ⟨gv, j * 12, none⟩) hb (.int .i64 (x.f0 + i * 128)))
      clear hseg hM hcc hfz m10 m11 hxa hxm hx hcells hcl HV HB
      go_wp2
      clear q0 z0
      (try rw [show j * 12 + 0 = j * 12 from rfl])
      go_roundw
      case rel => exact ⟨j + 1, by first | rfl | (rw [hwk]) | go_num, ⟨by have := HLT.out; omega⟩, HV2, HB2⟩
      case measure =>
        have := HLT.out
        (try rw [hwk])
        simp only [intOf]; omega
    · obtain rfl : j = L.length := by have := J.out; omega
      go_wp2
      go_ret
      exact ⟨_, rfl, by rw [HLL.out]; rw [partE_all] at HV; exact HV.out, HB.out⟩
end
end Go.Proofs.Ytbnglmeljbiglaa.Wl
set_option maxRecDepth 8192
namespace Go.Proofs.Ytbnglmeljbiglaa.Wl
open Go.Proofs.Ytbnglmeljbiglaa.Rgn
open Go.Proofs.Ytbnglmeljbiglaa.X4 Go.Proofs.Ytbnglmeljbiglaa.Pt Go.Proofs.Ytbnglmeljbiglaa.Ptb Go Go.RowKit Go.ChangeMaps Go.Proofs.Ytbnglmeljbiglaa.Arr Go.Proofs.Ytbnglmeljbiglaa.Mp Go.Proofs.Ytbnglmeljbiglaa.Ow Go.Proofs.Ytbnglmeljbiglaa.Dk Go.Proofs.Ytbnglmeljbiglaa.Fr Go.Proofs.YtbnglmeljbiglaaW.PrintWords Go.Proofs.YtbnglmeljbiglaaW.PrintLast Go.Proofs.YtbnglmeljbiglaaW.PrintMore
set_option linter.unusedVariables false
set_option linter.unusedSimpArgs false
/-- The records of the first k sectors, from a place on. -/
def scanK (W : WS) (from_ : Int) (k : Nat) : List En_ := (List.range k).flatMap fun (q : Nat) => (entL (W.low + (q : Int)) (bdy W (W.low + (q : Int)))).filter fun x => decide (from_ ≤ x.f0)
def scanF (W : WS) (from_ : Int) : List En_ := scanK W from_ (W.op + 1 - W.low).toNat
theorem scanK_succ (W : WS) (from_ : Int) (k : Nat) : scanK W from_ (k + 1) = scanK W from_ k ++ (entL (W.low + (k : Int)) (bdy W (W.low + (k : Int)))).filter fun x => decide (from_ ≤ x.f0) := by
  unfold scanK
  rw [List.range_succ, List.flatMap_append]
  simp
theorem all_le (s : ByteArray) : (allS s).length ≤ s.size := by
  have gen : ∀ (n : Nat) (p : Int) (l : List En_), 0 ≤ p → p ≤ s.size → allL s n p = some l → (l.length : Int) ≤ s.size - p := by
    intro n
    induction n with
    | zero => intro p l _ _ h; cases h
    | succ n ih =>
      intro p l hp hp2 h
      unfold allL at h
      split at h
      · rename_i hlt
        split at h
        · rename_i e
          obtain ⟨t, ht, rfl⟩ := Option.map_eq_some_iff.1 h
          obtain ⟨bs, q, p0, -, -, -, -, hn2, hs2, hl⟩ := read_some e
          have := ih _ _ (by omega) (by omega) ht
          simp only [List.length_cons]
          omega
        · cases h
      · injection h with h; subst h; simp; omega
  unfold allS
  cases h : allF s with
  | none => exact Nat.zero_le _
  | some l =>
    have := gen _ 0 l (by omega) (by omega) h
    show l.length ≤ s.size
    omega
theorem scanK_le (W : WS) (hbd : ∀ i, (bdy W i).size ≤ 112) (from_ : Int) (k : Nat) : (scanK W from_ k).length ≤ 112 * k := by
  induction k with
  | zero => exact Nat.le_refl _
  | succ k ih =>
    rw [scanK_succ, List.length_append]
    have h1 : ((entL (W.low + (k : Int)) (bdy W (W.low + (k : Int)))).filter fun x => decide (from_ ≤ x.f0)).length ≤ 112 := by
      refine Nat.le_trans (List.length_filter_le _ _) ?_
      unfold entL
      rw [List.length_map]
      exact Nat.le_trans (all_le _) (hbd _)
    omega
section
variable {w : World} {c : Nat → Nat} {gl m g N : Nat} {W : WS}
set_option maxHeartbeats 16000000 in
theorem scan_calls (h : LO w c gl m g W) (F : Fit W) (hbd : ∀ i, (bdy W i).size ≤ 112) (hgap : W.low ≤ W.op + 1 ∧ W.op - W.low ≤ 1000) (from_ : Int) :
    Calls Try.prog 20 #[.pointer (some ⟨gl, 0, none⟩), .int .i64 from_] w fun e w' => ∃ v : Value, e = .returned v ∧ Kd.N X4.k44 44 w' w.heap.size (fun k => w.heap.size ≤ k) v (scanF W from_) ∧ Below w.heap.size w w' := by
  have HL := Aside0.mk h; have HF := Aside0.mk F; have HBD := Aside0.mk hbd; have HGP := Aside0.mk hgap
  have c3 := h.c3
  clear h F hbd hgap
  have HK0 := Aside0.mk (show (((W.op + 1 - W.low).toNat : Nat) : Int) = W.op + 1 - W.low by have := HGP.out; omega)
  have HB := Aside0.mk (Below.refl w.heap.size w)
  go_enter Try.func20, Try.ntmps20
  go_upto_region 4 with (fail)
  clear c3
  go_loopw [4, 5] (fun lv iv wr => ∃ k : Nat, iv = .int .i64 (W.low + k) ∧ Aside0 (k ≤ (W.op + 1 - W.low).toNat) ∧ Aside0 (Kd.N X4.k44 44 wr w.heap.size (fun k => w.heap.size ≤ k) lv (scanK W from_ k)) ∧ Aside0 (LO wr c gl m g W) ∧ Aside0 (Below w.heap.size w wr)) (fun _ iv _ => (W.op + 1).toNat - (intOf iv).toNat)
  case atStart => exact ⟨0, by rw [show W.low + ((0 : Nat) : Int) = W.low by omega], ⟨Nat.zero_le _⟩, ⟨Kd.N_nil _ _ _ _ _⟩, HL, HB⟩
  case round =>
    clear HL HB
    obtain ⟨k, rfl, K, HV, HL, HB⟩ := hrel
    obtain ⟨lv, hlv⟩ : ∃ lv, lv = u4 := ⟨_, rfl⟩
    rw [← hlv] at HV
    rw [← hlv]
    clear hlv
    have c5 := HL.out.c5
    by_cases hle : W.low + (k : Int) ≤ W.op
    · have hwk : wrap64 (W.low + (k : Int) + 1) = W.low + (k : Int) + 1 := by have := HF.out.op; have := HF.out.low; unfold wrap64; omega
      have HLE := Aside0.mk hle
      go_upto_region 7 with (go_at_call 55; (with_reducible refine (entries_calls HL.out (W.low + (k : Int)) (by have := HF.out.op; have := HF.out.low; have := HLE.out; omega) (Nat.le_trans (HBD.out _) (by decide))).mono ?_); rintro e w1 ⟨rv, rfl, hv, hb1⟩; obtain ⟨A, cp, rfl⟩ := Kd.R_slice hv; have HE1 := Aside0.mk hv; have HB1 := Aside0.mk hb1; clear hv hb1)
      clear c5
      have HL1 := Aside0.mk (HL.out.below HB1.out); have HV1 := Aside0.mk (Kd.N_below HV.out HB1.out); have HBB := Aside0.mk (Arr.below_trans HB.out HB1.out)
      have hE := HE1.out
      generalize hL : entL (W.low + (k : Int)) (bdy W (W.low + (k : Int))) = L at *
      have HLL := Aside0.mk (show scanK W from_ (k + 1) = scanK W from_ k ++ L.filter (fun x => decide (from_ ≤ x.f0)) by rw [scanK_succ, hL])
      have HLN := Aside0.mk (show L.length ≤ 1000 by rw [← hL]; unfold entL; rw [List.length_map]; exact Nat.le_trans (all_le _) (Nat.le_trans (HBD.out _) (by decide)))
      have HXN := Aside0.mk (show (scanK W from_ k).length ≤ 1000000 by have := scanK_le W HBD.out from_ k; have := K.out; have := HK0.out; have := HGP.out; omega)
      clear hL
      have hF := Kd.F_mono (ok' := fun q => w.heap.size ≤ q ∧ some q ≠ lv.ownBlock) (Kd.R_F (Kd.R_bound hE)) (fun q hq => ⟨Nat.le_trans HB.out.size hq.2.1, fun he => by have := Kd.N_lt HV.out q he.symm; have := hq.2.1; omega⟩)
      have HFF := Aside0.mk hF
      clear hE hF HE1 HL HV HB HB1
      generalize scanK W from_ k = xs at *
      go_loopw [4, 26] (fun lv jv wq => ∃ j : Nat, jv = .int .i64 j ∧ Aside0 (j ≤ L.length) ∧ Aside0 (Kd.N X4.k44 44 wq w.heap.size (fun k => w.heap.size ≤ k) lv (xs ++ (L.take j).filter fun x => decide (from_ ≤ x.f0))) ∧ Aside0 (Kd.F X4.k44 wq (fun q => w.heap.size ≤ q ∧ some q ≠ lv.ownBlock) A L.length L) ∧ Aside0 (LO wq c gl m g W) ∧ Aside0 (Below w.heap.size w wq)) (fun _ jv _ => L.length - (intOf jv).toNat)
      case atStart => exact ⟨0, rfl, ⟨Nat.zero_le _⟩, ⟨by rw [List.take_zero, List.filter_nil, List.append_nil]; exact HV1.out⟩, HFF, HL1, HBB⟩
      case round =>
        clear HL1 HV1 HBB HFF
        obtain ⟨j, rfl, J, HV, HFF, HL, HB⟩ := hrel
        obtain ⟨lw, hlw⟩ : ∃ lw, lw = u4 := ⟨_, rfl⟩
        rw [← hlw] at HV HFF
        rw [← hlw]
        clear hlw
        by_cases hlt : j < L.length
        · have h1 : (j : Int) < (L.length : Int) := by omega
          have hwj : wrap64 ((j : Int) + 1) = ((j + 1 : Nat) : Int) := by have := HLN.out; unfold wrap64; omega
          have HLT := Aside0.mk hlt
          obtain ⟨ad, cs, rfl, hcl, hFK, hcc, _⟩ := Kd.F_get HFF.out X4.z44 (j : Int) (by omega) h1
          rw [Int.toNat_natCast] at hFK hcc
          have hxd : L.getD j X4.z44 = L[j] := by rw [List.getD_eq_getElem?_getD, List.getElem?_eq_getElem hlt]; rfl
          rw [hxd] at hFK
          generalize hx : L[j] = x at *
          have HTK := Aside0.mk (show (L.take (j + 1)).filter (fun x => decide (from_ ≤ x.f0)) = (L.take j).filter (fun x => decide (from_ ≤ x.f0)) ++ (if from_ ≤ x.f0 then [x] else []) by
            rw [List.take_add_one, List.getElem?_eq_getElem hlt, hx, List.filter_append]
            congr 1
            by_cases h : from_ ≤ x.f0
            · simp [h]
            · simp [h])
          obtain ⟨A10, c10, A11, c11, rfl, l10, g10, l11, g11⟩ := X4.k44_open (Kd.FK_now hFK)
          have HFK := Aside0.mk hFK
          have q0 : wr.cell? (ad.add (j * 12)) = some (.int .i64 x.f0) := hcc 0 _ rfl
          have q1 : wr.cell? ⟨(ad.add (j * 12)).block, (ad.add (j * 12)).off + 1, none⟩ = some (.int .i64 x.f1.f0) := by rw [← add_field _ _ 1 (by omega)]; exact hcc 1 _ rfl
          have q2 : wr.cell? ⟨(ad.add (j * 12)).block, (ad.add (j * 12)).off + 2, none⟩ = some (.int .i64 x.f1.f1) := by rw [← add_field _ _ 2 (by omega)]; exact hcc 2 _ rfl
          have q3 : wr.cell? ⟨(ad.add (j * 12)).block, (ad.add (j * 12)).off + 3, none⟩ = some (.int .i64 x.f1.f2) := by rw [← add_field _ _ 3 (by omega)]; exact hcc 3 _ rfl
          have q4 : wr.cell? ⟨(ad.add (j * 12)).block, (ad.add (j * 12)).off + 4, none⟩ = some (.int .i64 x.f1.f3) := by rw [← add_field _ _ 4 (by omega)]; exact hcc 4 _ rfl
          have q5 : wr.cell? ⟨(ad.add (j * 12)).block, (ad.add (j * 12)).off + 5, none⟩ = some (.int .i64 x.f1.f4) := by rw [← add_field _ _ 5 (by omega)]; exact hcc 5 _ rfl
          have q6 : wr.cell? ⟨(ad.add (j * 12)).block, (ad.add (j * 12)).off + 6, none⟩ = some (.int .i64 x.f1.f5) := by rw [← add_field _ _ 6 (by omega)]; exact hcc 6 _ rfl
          have q7 : wr.cell? ⟨(ad.add (j * 12)).block, (ad.add (j * 12)).off + 7, none⟩ = some (.int .i64 x.f1.f6) := by rw [← add_field _ _ 7 (by omega)]; exact hcc 7 _ rfl
          have q8 : wr.cell? ⟨(ad.add (j * 12)).block, (ad.add (j * 12)).off + 8, none⟩ = some (.string x.f1.f7) := by rw [← add_field _ _ 8 (by omega)]; exact hcc 8 _ rfl
          have q9 : wr.cell? ⟨(ad.add (j * 12)).block, (ad.add (j * 12)).off + 9, none⟩ = some (.string x.f1.f8) := by rw [← add_field _ _ 9 (by omega)]; exact hcc 9 _ rfl
          have q10 : wr.cell? ⟨(ad.add (j * 12)).block, (ad.add (j * 12)).off + 10, none⟩ = some (.slice A10 x.f1.f9.length c10) := by rw [← add_field _ _ 10 (by omega)]; exact hcc 10 _ rfl
          have q11 : wr.cell? ⟨(ad.add (j * 12)).block, (ad.add (j * 12)).off + 11, none⟩ = some (.slice A11 x.f1.f10.length c11) := by rw [← add_field _ _ 11 (by omega)]; exact hcc 11 _ rfl
          clear hcc hFK l10 g10 l11 g11 hx hcl hxd
          go_upto_region 9 with (fail)
          have hba := (Below.refl wr.heap.size wr).alloc (Nat.le_refl _) (.cells #[.int .i64 x.f0, .int .i64 x.f1.f0, .int .i64 x.f1.f1, .int .i64 x.f1.f2, .int .i64 x.f1.f3, .int .i64 x.f1.f4, .int .i64 x.f1.f5, .int .i64 x.f1.f6, .string x.f1.f7, .string x.f1.f8, .slice A10 x.f1.f9.length c10, .slice A11 x.f1.f10.length c11] 44)
          have HT := Aside0.mk (heap_alloc_new wr (.cells #[.int .i64 x.f0, .int .i64 x.f1.f0, .int .i64 x.f1.f1, .int .i64 x.f1.f2, .int .i64 x.f1.f3, .int .i64 x.f1.f4, .int .i64 x.f1.f5, .int .i64 x.f1.f6, .string x.f1.f7, .string x.f1.f8, .slice A10 x.f1.f9.length c10, .slice A11 x.f1.f10.length c11] 44))
          have HV1 := Aside0.mk (Kd.N_below HV.out hba); have HF1 := Aside0.mk (Kd.F_below HFF.out hba); have HFK1 := Aside0.mk (Kd.FK_below HFK.out hba); have HL1 := Aside0.mk (HL.out.below hba); have HB1 := Aside0.mk (HB.out.alloc HB.out.size (.cells #[.int .i64 x.f0, .int .i64 x.f1.f0, .int .i64 x.f1.f1, .int .i64 x.f1.f2, .int .i64 x.f1.f3, .int .i64 x.f1.f4, .int .i64 x.f1.f5, .int .i64 x.f1.f6, .string x.f1.f7, .string x.f1.f8, .slice A10 x.f1.f9.length c10, .slice A11 x.f1.f10.length c11] 44))
          clear hba HV HFF HFK HL HB q0 q1 q2 q3 q4 q5 q6 q7 q8 q9 q10 q11
          generalize wr.alloc (.cells #[.int .i64 x.f0, .int .i64 x.f1.f0, .int .i64 x.f1.f1, .int .i64 x.f1.f2, .int .i64 x.f1.f3, .int .i64 x.f1.f4, .int .i64 x.f1.f5, .int .i64 x.f1.f6, .string x.f1.f7, .string x.f1.f8, .slice A10 x.f1.f9.length c10, .slice A11 x.f1.f10.length c11] 44) = w4 at *
          generalize wr.heap.size = bx at *
          obtain ⟨x0, x1, x2, x3, x4, x5, x6, x7, x8, x9, x10, x11⟩ := cells12 w4 bx HT.out
          by_cases hge : from_ ≤ x.f0
          · have HTK2 := Aside0.mk (show xs ++ (L.take (j + 1)).filter (fun x => decide (from_ ≤ x.f0)) = xs ++ (L.take j).filter (fun x => decide (from_ ≤ x.f0)) ++ [x] by rw [HTK.out, if_pos hge, List.append_assoc])
            have HLN2 := Aside0.mk (show ((xs ++ (L.take j).filter fun x => decide (from_ ≤ x.f0)).length + 1) * 144 ≤ 140737488355328 by
              have h1 := HLN.out; have h2 := HXN.out
              have h3 : ((L.take j).filter fun x => decide (from_ ≤ x.f0)).length ≤ L.length := Nat.le_trans (List.length_filter_le _ _) (by rw [List.length_take]; omega)
              rw [List.length_append]
              omega)
            go_wp2_with ((with_reducible refine gate_builtin (b := .append) (xs := #[.tmp 34, .tmp 36]) rfl ?_); at_builtin; refine Kd.N_append X4.k44 (w0 := w) w.heap.size rfl (.tmp 34) (.tmp 36) 33 44 (.agg #[(.int .i64 0), (.int .i64 0), (.int .i64 0), (.int .i64 0), (.int .i64 0), (.int .i64 0), (.int .i64 0), (.int .i64 0), (.string ⟨#[]⟩), (.string ⟨#[]⟩), (.slice none 0 0), (.slice none 0 0)]) 144 rfl Try.underlying33 X4b.info44 rfl (by decide) (by omega) lw (xs ++ (L.take j).filter fun x => decide (from_ ≤ x.f0)) x [.int .i64 x.f0, .int .i64 x.f1.f0, .int .i64 x.f1.f1, .int .i64 x.f1.f2, .int .i64 x.f1.f3, .int .i64 x.f1.f4, .int .i64 x.f1.f5, .int .i64 x.f1.f6, .string x.f1.f7, .string x.f1.f8, .slice A10 x.f1.f9.length c10, .slice A11 x.f1.f10.length c11] (fun k => w.heap.size ≤ k) (fun q => w.heap.size ≤ q ∧ some q ≠ lw.ownBlock) rfl rfl HFK1.out (fun _ hk => hk) (fun q hq => Nat.le_trans HB1.out.size hq) HV1.out HB1.out HB1.out.size HLN2.out ?_; intro v1 w5 hv hb5 hg hat; have HV2 := Aside0.mk hv; have HB2 := Aside0.mk hb5; have HF2 := Aside0.mk (Kd.F_mono (ok' := fun q => w.heap.size ≤ q ∧ some q ≠ v1.ownBlock) (Kd.F_after HF1.out hg hat) (fun _ h => h)); have HL2 := Aside0.mk (show LO w5 c gl m g W from HL1.out.keepOwn hg (Kd.N_typed HV1.out)); clear hv hb5 hg hat HV1 HB1 HF1 HL1)
            go_roundw
            case rel => exact ⟨j + 1, by first | rfl | (rw [hwj]) | go_num, ⟨by have := HLT.out; omega⟩, ⟨by rw [HTK2.out]; exact HV2.out⟩, HF2, HL2, HB2⟩
            case measure =>
              have := HLT.out
              (try rw [hwj])
              simp only [intOf]; omega
          · have HTK2 := Aside0.mk (show xs ++ (L.take (j + 1)).filter (fun x => decide (from_ ≤ x.f0)) = xs ++ (L.take j).filter (fun x => decide (from_ ≤ x.f0)) by rw [HTK.out, if_neg hge, List.append_nil])
            go_wp2
            go_roundw
            case rel => exact ⟨j + 1, by first | rfl | (rw [hwj]) | go_num, ⟨by have := HLT.out; omega⟩, ⟨by rw [HTK2.out]; exact HV1.out⟩, HF1, HL1, HB1⟩
            case measure =>
              have := HLT.out
              (try rw [hwj])
              simp only [intOf]; omega
        · obtain rfl : j = L.length := by have := J.out; omega
          have HTK2 := Aside0.mk (show xs ++ (L.take L.length).filter (fun x => decide (from_ ≤ x.f0)) = scanK W from_ (k + 1) by rw [List.take_length, HLL.out])
          go_wp2
          go_roundw
          case rel => exact ⟨k + 1, by first | (rw [hwk]; congr 1; omega) | (congr 1; omega), ⟨by have := HLE.out; have := HK0.out; omega⟩, ⟨by rw [← HTK2.out]; exact HV.out⟩, HL, HB⟩
          case measure =>
            have := HLE.out
            have hw := hwk
            have := HF.out.low
            simp only [intOf]
            first | omega | (rw [hw]; omega) | (simp only [hw]; omega)
    · have HKK := Aside0.mk (show k = (W.op + 1 - W.low).toNat by have := K.out; have := HK0.out; omega)
      go_wp2
      go_ret
      exact ⟨_, rfl, by unfold scanF; rw [← HKK.out]; exact HV.out, HB.out⟩
end
end Go.Proofs.Ytbnglmeljbiglaa.Wl
