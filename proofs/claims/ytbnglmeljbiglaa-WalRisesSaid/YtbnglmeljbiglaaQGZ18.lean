import Derived.WalkMore
import Derived.Test.YtbnglmeljbiglaaQGZ0
import Derived.Test.YtbnglmeljbiglaaQGZ1
import Derived.Test.YtbnglmeljbiglaaQGZ2
import Derived.Test.YtbnglmeljbiglaaQGZ3
import Derived.Test.YtbnglmeljbiglaaQGZ4
import Derived.Test.YtbnglmeljbiglaaQGZ5
import Derived.Test.YtbnglmeljbiglaaQGZ6
import Derived.Test.YtbnglmeljbiglaaQGZ7
import Derived.Test.YtbnglmeljbiglaaQGZ8
import Derived.Test.YtbnglmeljbiglaaQGZ9
import Derived.Test.YtbnglmeljbiglaaQGZ10
import Derived.Test.YtbnglmeljbiglaaQGZ11
import Derived.Test.YtbnglmeljbiglaaQGZ12
import Derived.Test.YtbnglmeljbiglaaQGZ13
import Derived.Test.YtbnglmeljbiglaaQGZ14
import Derived.Test.YtbnglmeljbiglaaQGZ15
import Derived.Test.YtbnglmeljbiglaaQGZ16
import Derived.Test.YtbnglmeljbiglaaQGZ17
set_option maxRecDepth 8192
namespace Go.Proofs.Ytbnglmeljbiglaa.Wl
open Go.Proofs.Ytbnglmeljbiglaa.Rgn
open Go Go.RowKit Go.ChangeMaps Go.Proofs.Ytbnglmeljbiglaa.Arr Go.Proofs.Ytbnglmeljbiglaa.Mp Go.Proofs.Ytbnglmeljbiglaa.Ow Go.Proofs.Ytbnglmeljbiglaa.Dk Go.Proofs.Ytbnglmeljbiglaa.Fr Go.Proofs.YtbnglmeljbiglaaW.PrintWords Go.Proofs.YtbnglmeljbiglaaW.PrintLast Go.Proofs.YtbnglmeljbiglaaW.PrintMore
set_option linter.unusedVariables false
set_option linter.unusedSimpArgs false
/-- Sectors from i on, as long as they are the log's, and of rising epochs. -/
def scanW (d : DS) (base n : Int) : Nat → Int → Int → (Int → Option ByteArray) → Int × (Int → Option ByteArray)
  | 0, i, _, f => (i, f)
  | k + 1, i, last, f => match wholeF d (base + i.tmod n) i with
    | none => (i, f)
    | some q => if q.1 < last then (i, f) else scanW d base n k (i + 1) q.1 (fun j => if j = i then some q.2 else f j)
def openW (d : DS) (base n low : Int) : WS := ⟨base, n, low, (scanW d base n n.toNat low 0 (fun _ => none)).1, (scanW d base n n.toNat low 0 (fun _ => none)).1, latestF d base n.toNat + 1, (scanW d base n n.toNat low 0 (fun _ => none)).2⟩
theorem whole_lt {d : DS} {p i : Int} {q : Int × ByteArray} (h : wholeF d p i = some q) : 0 ≤ q.1 ∧ q.1 < 4294967296 := by
  unfold wholeF at h
  split at h
  · cases h
  · split at h
    · injection h with h; subst h; exact (unpack_lt _).1
    · cases h
section
variable {w : World} {c : Nat → Nat} {g N : Nat} {d : DS}
set_option maxHeartbeats 16000000 in
theorem lopen_calls (h : DK w (Col c 1) g d) (ho : OkN N d) (base n low : Int) (hb : 0 ≤ base ∧ base ≤ 1000) (hn : 1 ≤ n ∧ n ≤ 64) (hl : liesE d base n = 0) (hlow : 1 ≤ low ∧ low ≤ 16777216) (hg : d.gone = false) (hle : latestF d base n.toNat < 4294967290) : Calls Try.prog 19 #[.pointer (some ⟨g, 0, none⟩), .int .i64 base, .int .i64 n, .int .i64 low] w fun e w' => ∃ gl m c', e = .returned (.tuple #[.pointer (some ⟨gl, 0, none⟩), .int .i64 0]) ∧ Fr [] w c w' c' ∧ LO w' c' gl m g (openW d base n low) ∧ DK w' (Col c' 1) g d := by
  have HD := Aside0.mk h; have HO := Aside0.mk ho; have HBN := Aside0.mk hb; have HN := Aside0.mk hn; have HLI := Aside0.mk hl; have HLW := Aside0.mk hlow; have HG := Aside0.mk hg
  have HLE := Aside0.mk (And.intro (latest_lt d base n.toNat).1 hle)
  have HNN := Aside0.mk (show ((n.toNat : Nat) : Int) = n by omega)
  have q1 : decide (low < 1) = false := decide_eq_false (by omega)
  have q2 : decide (16777216 < low) = false := decide_eq_false (by omega)
  clear h ho hb hn hl hlow hg hle
  go_enter Try.func19, Try.ntmps19
  go_wp2
  go_step3
  go_upto_region 2 with (go_at_call 12; (with_reducible refine (lnew_at HD.out HO.out base n (by have := HBN.out; omega) (by have := HN.out; omega) HLI.out).mono ?_); rintro e w1 ⟨gl, m, rfl, h1, h2, hb1, hL, hD⟩; have HS1 := Aside0.mk h1; have HS2 := Aside0.mk h2; have HB := Aside0.mk hb1; have HL := Aside0.mk hL; have HK := Aside0.mk hD; clear h1 h2 hb1 hL hD)
  clear HD
  have HCC := Aside0.mk (show ∀ w', Below w.heap.size w w' → Fr [] w c w' (Dk.paint c w.heap.size 3) from fun w' hb => Fr.of_paint hb 3)
  generalize Dk.paint c w.heap.size 3 = cc at *
  go_upto_region 8 with (go_at_call 52; (with_reducible refine (dead_calls d g _ _ HK.out).mono ?_); rintro e w2 ⟨rfl, hb2⟩; rw [HG.out]; have HB_n := Aside0.mk (Arr.below_trans HB.out hb2); have HL_n := Aside0.mk (HL.out.below hb2); have HK_n := Aside0.mk (HK.out.below hb2); clear HB HL HK hb2; have HB := HB_n; have HL := HL_n; have HK := HK_n; clear HB_n HL_n HK_n)
  clear q1 q2
  have c3 := HL.out.c3; have c5 := HL.out.c5; have f3 := HL.out.fz 3; have f5 := HL.out.fz 5
  have s1 := HL.out.set 3 (.int .i64 low) (W' := { newW base n with low := low }) rfl rfl
  have s2 := s1.1.set 5 (.int .i64 low) (W' := { newW base n with low := low, op := low }) rfl rfl
  have hf := s1.2.trans s2.2
  have c5b := s1.1.c5; have f5b := s1.1.fz 5
  have HL2 := Aside0.mk s2.1; have HK2 := Aside0.mk (dk_keep HK.out hf (by decide))
  have HB2 := Aside0.mk ((HB.out.setCell (p := ⟨gl, 3, none⟩) HS1.out (.int .i64 low)).setCell (p := ⟨gl, 5, none⟩) HS1.out (.int .i64 low))
  clear s1 s2 hf HL HK HB
  go_upto_region 9 with (fail)
  clear c3 c5 f3 f5 c5b f5b
  generalize (w2.setCell ⟨gl, 3, none⟩ (.int .i64 low)).setCell ⟨gl, 5, none⟩ (.int .i64 low) = w3 at *
  obtain ⟨R, hR⟩ : ∃ R, R = scanW d base n n.toNat low 0 (fun _ => none) := ⟨_, rfl⟩
  have HR := Aside0.mk hR
  go_wp2
  go_step3
  go_upto_region 10 with (fail)
  go_loopw [12] (fun lv wr => ∃ (k j : Nat) (last : Int) (f : Int → Option ByteArray), lv = .int .u32 last ∧ Aside0 (k + j = n.toNat) ∧ Aside0 (LO wr cc gl m g ⟨base, n, low, 1, low + k, 1, f⟩) ∧ Aside0 (DK wr (Col cc 1) g d) ∧ Aside0 (Below w.heap.size w wr) ∧ Aside0 (scanW d base n j (low + k) last f = R) ∧ Aside0 (0 ≤ last ∧ last < 4294967296)) (fun _ wr => n.toNat + (low.toNat) - (opOf wr gl).toNat)
  case atStart => exact ⟨0, n.toNat, 0, fun _ => none, rfl, ⟨by omega⟩, ⟨by have := HL2.out; rw [show low + ((0 : Nat) : Int) = low by omega]; exact this⟩, HK2, HB2, ⟨by rw [HR.out, show low + ((0 : Nat) : Int) = low by omega]⟩, ⟨by decide⟩⟩
  case round =>
    clear HL2 HK2 HB2
    obtain ⟨k, j, last, f, rfl, KJ, HL, HK, HB, HSC, HLA⟩ := hrel
    have HF := Aside0.mk (show Fit ⟨base, n, low, 1, low + k, 1, f⟩ from ⟨HBN.out, HN.out, by have := HLW.out; exact ⟨by show 0 ≤ low; omega, by show low ≤ _; omega⟩, ⟨by show (0 : Int) ≤ 1; decide, by show (1 : Int) ≤ _; decide⟩, by have := HLW.out; have := KJ.out; have := HN.out; have := HNN.out; exact ⟨by show 0 ≤ low + (k : Int); omega, by show low + (k : Int) ≤ _; omega⟩, ⟨by show (0 : Int) ≤ 1; decide, by show (1 : Int) < _; decide⟩⟩)
    have hwn : wrap64 (low + n) = low + n := by have := HLW.out; have := HN.out; unfold wrap64; omega
    have c5 : wr.cell? ⟨gl, 5, none⟩ = some (.int .i64 (low + k)) := HL.out.c5
    have HOP := Aside0.mk (show opOf wr gl = low + (k : Int) from HL.out.opOf)
    cases j with
    | zero =>
      have t1 : ¬ (k : Int) < n := by have := KJ.out; have := HNN.out; omega
      have HRE := Aside0.mk (show (low + (k : Int), f) = R from HSC.out)
      go_upto_region 17 with (fail)
      (try clear x0 x2 t2)
      clear c5 t1
      have HB1 := Aside0.mk HB.out.drew; have HL1 := Aside0.mk HL.out.drew; have HK1 := Aside0.mk HK.out.drew
      clear HB HL HK
      have HLE1 := Aside0.mk (show IntKind.u32.wrap (latestF d base n.toNat + 1) = latestF d base n.toNat + 1 by rw [IntKind.wrap_u32]; exact Int.emod_eq_of_lt (by have := HLE.out; omega) (by have := HLE.out; omega))
      have c5 : wr.drew.cell? ⟨gl, 5, none⟩ = some (.int .i64 (low + k)) := HL1.out.c5
      refine start_ (n := 15) (S := fun w' => w'.cell? ⟨gl, 5, none⟩ = some (.int .i64 (low + k))) (ds := []) #[false, false, false, false, false, false, false, false, false, false, false, false, false, false, false] (by kernel_rfl) rfl rfl c5 (fun hHeld => ?_)
      refine rgp 0 87 ?_
      refine rgp 1 88 ?_
      refine rgp 2 89 ?_
      refine rgp 3 90 ?_
      refine rgp 4 91 ?_
      refine rgp 6 93 ?_
      refine rgt 5 92 hHeld ?_
      refine one_ (i := 7) (N := some 94) #[true, true, true, true, true, true, true, true, false, false, false, false, false, false, false] rfl rfl (by kernel_rfl) (by decide) (fun K hK => ?_)
      generalize wr.drew = X0_ at *
      refine goes_ Try.func54 (by kernel_rfl) rfl #[.pointer (some ⟨gl, 0, none⟩)] (by rfl) rfl rfl (by (try simp only [List.map_toArray, List.map_cons, List.map_nil]); first | done | rfl) ?_
      refine (latest_calls HL1.out HK1.out HO.out HF.out).mono ?_
      rintro e v1_ ⟨rfl, hb1⟩
      refine ⟨_, rfl, ?_⟩
      have HB2 := Aside0.mk (Arr.below_trans HB1.out hb1); have HL2 := Aside0.mk (HL1.out.below hb1); have HK2 := Aside0.mk (HK1.out.below hb1)
      clear HB1 HL1 HK1 hb1
      refine hK _ _ HL2.out.c5 (fun hHeld => ?_)
      clear hK K
      refine norm_ (a' := ?_) ?_ ?_
      rotate_left
      · show Act.put _ (some 94) _ = _
        simp only [Act.put, List.setIfInBounds_toArray, List.set_cons_zero, List.set_cons_succ, i64_w, i32_w]
        rfl
      refine rgp 8 95 ?_
      refine rgp 9 96 ?_
      refine rgp 10 97 ?_
      refine one_ (i := 11) (N := none) #[true, true, true, true, true, true, true, true, true, true, true, true, false, false, false] rfl rfl (by kernel_rfl) (by decide) (fun K hK => ?_)
      have cz := HL2.out.c4; have fz := HL2.out.fz 4
      refine skip_ (w1 := ?_) (by kernel_rfl) rfl ?_ ?_
      rotate_left
      · go_simp
        rfl
      have s1 := HL2.out.set 4 (.int .i64 (low + (k : Int))) (W' := ⟨base, n, low, low + k, low + k, 1, f⟩) rfl rfl
      have HL3 := Aside0.mk s1.1; have HK3 := Aside0.mk (dk_keep HK2.out s1.2 (by decide)); have HB3 := Aside0.mk (HB2.out.setCell (p := ⟨gl, 4, none⟩) HS1.out (.int .i64 (low + (k : Int))))
      clear s1 cz fz HL2 HK2 HB2
      refine hK _ _ HL3.out.c5 (fun hHeld => ?_)
      clear hK K
      generalize v1_.setCell ⟨gl, 4, none⟩ (.int .i64 (low + (k : Int))) = Y_ at *
      refine rgp 12 98 ?_
      refine rgp 13 99 ?_
      refine one_ (i := 14) (N := none) #[true, true, true, true, true, true, true, true, true, true, true, true, true, true, true] rfl rfl (by kernel_rfl) (by decide) (fun K hK => ?_)
      have cz := HL3.out.c6; have fz := HL3.out.fz 6
      rw [show (latestF d (WS.base ⟨base, n, low, 1, low + (k : Int), 1, f⟩) (WS.n ⟨base, n, low, 1, low + (k : Int), 1, f⟩).toNat) = latestF d base n.toNat from rfl, HLE1.out]
      refine skip_ (w1 := ?_) (by kernel_rfl) rfl ?_ ?_
      rotate_left
      · go_simp
        rfl
      have s1 := HL3.out.set 6 (.int .u32 (latestF d base n.toNat + 1)) (W' := ⟨base, n, low, low + k, low + k, latestF d base n.toNat + 1, f⟩) rfl rfl
      have HL4 := Aside0.mk s1.1; have HK4 := Aside0.mk (dk_keep HK3.out s1.2 (by decide)); have HB4 := Aside0.mk (HB3.out.setCell (p := ⟨gl, 6, none⟩) HS1.out (.int .u32 (latestF d base n.toNat + 1)))
      clear s1 cz fz HL3 HK3 HB3
      refine hK _ _ HL4.out.c5 (fun hHeld => ?_)
      clear hK K
      refine done_ (by kernel_rfl) ?_
      go_wp2
      (try rw [Exit.noGoto_ret])
      go_ret2
      have HQ := show openW d base n low = ⟨base, n, low, low + k, low + k, latestF d base n.toNat + 1, f⟩ by unfold openW; rw [← HR.out, ← HRE.out]
      exact ⟨gl, m, cc, rfl, HCC.out _ HB4.out, by rw [HQ]; exact HL4.out, HK4.out⟩
    | succ j =>
      have t1 : (k : Int) < n := by have := KJ.out; have := HNN.out; omega
      have hcall := whole_calls HL.out HK.out HO.out HF.out (low + k) (by have := HLW.out; omega)
      cases hq : wholeF d (base + (low + (k : Int)).tmod n) (low + k) with
      | none =>
        have HC := Aside0.mk (hcall.mono fun x w' (hx : WholeR (wholeF d (base + (low + (k : Int)).tmod n) (low + k)) x ∧ _) => show (∃ we wi wb, x = .returned (.tuple #[.agg #[.int .u32 we, .int .u32 wi, .string wb], .bool false])) ∧ Below wr.heap.size wr w' by
          rw [hq] at hx
          obtain ⟨⟨e, i, b, h1, _⟩, h2⟩ := hx
          exact ⟨⟨e, i, b, h1⟩, h2⟩)
        have HRE := Aside0.mk (show (low + (k : Int), f) = R by have := HSC.out; unfold scanW at this; rw [hq] at this; exact this)
        clear hcall hq
        go_upto_region 12 with (go_at_call 53; (with_reducible refine HC.out.mono ?_); rintro e w4 ⟨⟨we, wi, wb, rfl⟩, hb4⟩; have HB_n := Aside0.mk (Arr.below_trans HB.out hb4); have HL_n := Aside0.mk (HL.out.below hb4); have HK_n := Aside0.mk (HK.out.below hb4); clear HB HL HK hb4; have HB := HB_n; have HL := HL_n; have HK := HK_n; clear HB_n HL_n HK_n)
        have HX := Aside0.mk (heap_alloc_new w4 (.cells #[.int .u32 we, .int .u32 wi, .string wb] 97))
        have hba := (Below.refl w4.heap.size w4).alloc (Nat.le_refl _) (.cells #[.int .u32 we, .int .u32 wi, .string wb] 97)
        have HB_n := Aside0.mk (HB.out.alloc HB.out.size (.cells #[.int .u32 we, .int .u32 wi, .string wb] 97)); have HL_n := Aside0.mk (HL.out.below hba); have HK_n := Aside0.mk (HK.out.below hba); clear HB HL HK hba; have HB := HB_n; have HL := HL_n; have HK := HK_n; clear HB_n HL_n HK_n
        generalize w4.alloc (.cells #[.int .u32 we, .int .u32 wi, .string wb] 97) = w5 at *
        generalize w4.heap.size = bx at *
        clear c5
        have c5 : w5.cell? ⟨gl, 5, none⟩ = some (.int .i64 (low + k)) := HL.out.c5
        have x0 : w5.cell? ⟨bx, 0, none⟩ = some (.int .u32 we) := blk_cell HX.out 0; have x2 : w5.cell? ⟨bx, 2, none⟩ = some (.string wb) := blk_cell HX.out 2
        go_upto_region 17 with (fail)
        (try clear x0 x2 t2)
        clear c5 t1
        have HB1 := Aside0.mk HB.out.drew; have HL1 := Aside0.mk HL.out.drew; have HK1 := Aside0.mk HK.out.drew
        clear HB HL HK
        have HLE1 := Aside0.mk (show IntKind.u32.wrap (latestF d base n.toNat + 1) = latestF d base n.toNat + 1 by rw [IntKind.wrap_u32]; exact Int.emod_eq_of_lt (by have := HLE.out; omega) (by have := HLE.out; omega))
        have c5 : w5.drew.cell? ⟨gl, 5, none⟩ = some (.int .i64 (low + k)) := HL1.out.c5
        refine start_ (n := 15) (S := fun w' => w'.cell? ⟨gl, 5, none⟩ = some (.int .i64 (low + k))) (ds := []) #[false, false, false, false, false, false, false, false, false, false, false, false, false, false, false] (by kernel_rfl) rfl rfl c5 (fun hHeld => ?_)
        refine rgp 0 87 ?_
        refine rgp 1 88 ?_
        refine rgp 2 89 ?_
        refine rgp 3 90 ?_
        refine rgp 4 91 ?_
        refine rgp 6 93 ?_
        refine rgt 5 92 hHeld ?_
        refine one_ (i := 7) (N := some 94) #[true, true, true, true, true, true, true, true, false, false, false, false, false, false, false] rfl rfl (by kernel_rfl) (by decide) (fun K hK => ?_)
        generalize w5.drew = X0_ at *
        refine goes_ Try.func54 (by kernel_rfl) rfl #[.pointer (some ⟨gl, 0, none⟩)] (by rfl) rfl rfl (by (try simp only [List.map_toArray, List.map_cons, List.map_nil]); first | done | rfl) ?_
        refine (latest_calls HL1.out HK1.out HO.out HF.out).mono ?_
        rintro e v1_ ⟨rfl, hb1⟩
        refine ⟨_, rfl, ?_⟩
        have HB2 := Aside0.mk (Arr.below_trans HB1.out hb1); have HL2 := Aside0.mk (HL1.out.below hb1); have HK2 := Aside0.mk (HK1.out.below hb1)
        clear HB1 HL1 HK1 hb1
        refine hK _ _ HL2.out.c5 (fun hHeld => ?_)
        clear hK K
        refine norm_ (a' := ?_) ?_ ?_
        rotate_left
        · show Act.put _ (some 94) _ = _
          simp only [Act.put, List.setIfInBounds_toArray, List.set_cons_zero, List.set_cons_succ, i64_w, i32_w]
          rfl
        refine rgp 8 95 ?_
        refine rgp 9 96 ?_
        refine rgp 10 97 ?_
        refine one_ (i := 11) (N := none) #[true, true, true, true, true, true, true, true, true, true, true, true, false, false, false] rfl rfl (by kernel_rfl) (by decide) (fun K hK => ?_)
        have cz := HL2.out.c4; have fz := HL2.out.fz 4
        refine skip_ (w1 := ?_) (by kernel_rfl) rfl ?_ ?_
        rotate_left
        · go_simp
          rfl
        have s1 := HL2.out.set 4 (.int .i64 (low + (k : Int))) (W' := ⟨base, n, low, low + k, low + k, 1, f⟩) rfl rfl
        have HL3 := Aside0.mk s1.1; have HK3 := Aside0.mk (dk_keep HK2.out s1.2 (by decide)); have HB3 := Aside0.mk (HB2.out.setCell (p := ⟨gl, 4, none⟩) HS1.out (.int .i64 (low + (k : Int))))
        clear s1 cz fz HL2 HK2 HB2
        refine hK _ _ HL3.out.c5 (fun hHeld => ?_)
        clear hK K
        generalize v1_.setCell ⟨gl, 4, none⟩ (.int .i64 (low + (k : Int))) = Y_ at *
        refine rgp 12 98 ?_
        refine rgp 13 99 ?_
        refine one_ (i := 14) (N := none) #[true, true, true, true, true, true, true, true, true, true, true, true, true, true, true] rfl rfl (by kernel_rfl) (by decide) (fun K hK => ?_)
        have cz := HL3.out.c6; have fz := HL3.out.fz 6
        rw [show (latestF d (WS.base ⟨base, n, low, 1, low + (k : Int), 1, f⟩) (WS.n ⟨base, n, low, 1, low + (k : Int), 1, f⟩).toNat) = latestF d base n.toNat from rfl, HLE1.out]
        refine skip_ (w1 := ?_) (by kernel_rfl) rfl ?_ ?_
        rotate_left
        · go_simp
          rfl
        have s1 := HL3.out.set 6 (.int .u32 (latestF d base n.toNat + 1)) (W' := ⟨base, n, low, low + k, low + k, latestF d base n.toNat + 1, f⟩) rfl rfl
        have HL4 := Aside0.mk s1.1; have HK4 := Aside0.mk (dk_keep HK3.out s1.2 (by decide)); have HB4 := Aside0.mk (HB3.out.setCell (p := ⟨gl, 6, none⟩) HS1.out (.int .u32 (latestF d base n.toNat + 1)))
        clear s1 cz fz HL3 HK3 HB3
        refine hK _ _ HL4.out.c5 (fun hHeld => ?_)
        clear hK K
        refine done_ (by kernel_rfl) ?_
        go_wp2
        (try rw [Exit.noGoto_ret])
        go_ret2
        have HQ := show openW d base n low = ⟨base, n, low, low + k, low + k, latestF d base n.toNat + 1, f⟩ by unfold openW; rw [← HR.out, ← HRE.out]
        exact ⟨gl, m, cc, rfl, HCC.out _ HB4.out, by rw [HQ]; exact HL4.out, HK4.out⟩
      | some y =>
        have hy := whole_lt hq
        have HY := Aside0.mk hy
        have HC := Aside0.mk (hcall.mono fun x w' (hx : WholeR (wholeF d (base + (low + (k : Int)).tmod n) (low + k)) x ∧ _) => show (∃ wi, x = .returned (.tuple #[.agg #[.int .u32 y.1, .int .u32 wi, .string y.2], .bool true])) ∧ Below wr.heap.size wr w' by
          rw [hq] at hx
          obtain ⟨⟨e, i, b, h1, h3⟩, h2⟩ := hx
          obtain ⟨rfl, rfl⟩ := h3 y rfl
          exact ⟨⟨i, h1⟩, h2⟩)
        have HSN := Aside0.mk (show (if y.1 < last then (low + (k : Int), f) else scanW d base n j (low + k + 1) y.1 (fun i => if i = low + k then some y.2 else f i)) = R by have := HSC.out; unfold scanW at this; rw [hq] at this; exact this)
        obtain ⟨we, wb⟩ := y
        dsimp only at HY HC HSN
        clear hcall hq hy
        go_upto_region 12 with (go_at_call 53; (with_reducible refine HC.out.mono ?_); rintro e w4 ⟨⟨wi, rfl⟩, hb4⟩; have HB_n := Aside0.mk (Arr.below_trans HB.out hb4); have HL_n := Aside0.mk (HL.out.below hb4); have HK_n := Aside0.mk (HK.out.below hb4); clear HB HL HK hb4; have HB := HB_n; have HL := HL_n; have HK := HK_n; clear HB_n HL_n HK_n)
        have HX := Aside0.mk (heap_alloc_new w4 (.cells #[.int .u32 we, .int .u32 wi, .string wb] 97))
        have hba := (Below.refl w4.heap.size w4).alloc (Nat.le_refl _) (.cells #[.int .u32 we, .int .u32 wi, .string wb] 97)
        have HB_n := Aside0.mk (HB.out.alloc HB.out.size (.cells #[.int .u32 we, .int .u32 wi, .string wb] 97)); have HL_n := Aside0.mk (HL.out.below hba); have HK_n := Aside0.mk (HK.out.below hba); clear HB HL HK hba; have HB := HB_n; have HL := HL_n; have HK := HK_n; clear HB_n HL_n HK_n
        generalize w4.alloc (.cells #[.int .u32 we, .int .u32 wi, .string wb] 97) = w5 at *
        generalize w4.heap.size = bx at *
        clear c5
        have c5 : w5.cell? ⟨gl, 5, none⟩ = some (.int .i64 (low + k)) := HL.out.c5
        have x0 : w5.cell? ⟨bx, 0, none⟩ = some (.int .u32 we) := blk_cell HX.out 0; have x2 : w5.cell? ⟨bx, 2, none⟩ = some (.string wb) := blk_cell HX.out 2
        by_cases hel : we < last
        · have t2 : decide (we < last) = true := decide_eq_true hel
          have HRE := Aside0.mk (show (low + (k : Int), f) = R by rw [← HSN.out, if_pos hel])
          clear hel
          go_upto_region 17 with (fail)
          (try clear x0 x2 t2)
          clear c5 t1
          have HB1 := Aside0.mk HB.out.drew; have HL1 := Aside0.mk HL.out.drew; have HK1 := Aside0.mk HK.out.drew
          clear HB HL HK
          have HLE1 := Aside0.mk (show IntKind.u32.wrap (latestF d base n.toNat + 1) = latestF d base n.toNat + 1 by rw [IntKind.wrap_u32]; exact Int.emod_eq_of_lt (by have := HLE.out; omega) (by have := HLE.out; omega))
          have c5 : w5.drew.cell? ⟨gl, 5, none⟩ = some (.int .i64 (low + k)) := HL1.out.c5
          refine start_ (n := 15) (S := fun w' => w'.cell? ⟨gl, 5, none⟩ = some (.int .i64 (low + k))) (ds := []) #[false, false, false, false, false, false, false, false, false, false, false, false, false, false, false] (by kernel_rfl) rfl rfl c5 (fun hHeld => ?_)
          refine rgp 0 87 ?_
          refine rgp 1 88 ?_
          refine rgp 2 89 ?_
          refine rgp 3 90 ?_
          refine rgp 4 91 ?_
          refine rgp 6 93 ?_
          refine rgt 5 92 hHeld ?_
          refine one_ (i := 7) (N := some 94) #[true, true, true, true, true, true, true, true, false, false, false, false, false, false, false] rfl rfl (by kernel_rfl) (by decide) (fun K hK => ?_)
          generalize w5.drew = X0_ at *
          refine goes_ Try.func54 (by kernel_rfl) rfl #[.pointer (some ⟨gl, 0, none⟩)] (by rfl) rfl rfl (by (try simp only [List.map_toArray, List.map_cons, List.map_nil]); first | done | rfl) ?_
          refine (latest_calls HL1.out HK1.out HO.out HF.out).mono ?_
          rintro e v1_ ⟨rfl, hb1⟩
          refine ⟨_, rfl, ?_⟩
          have HB2 := Aside0.mk (Arr.below_trans HB1.out hb1); have HL2 := Aside0.mk (HL1.out.below hb1); have HK2 := Aside0.mk (HK1.out.below hb1)
          clear HB1 HL1 HK1 hb1
          refine hK _ _ HL2.out.c5 (fun hHeld => ?_)
          clear hK K
          refine norm_ (a' := ?_) ?_ ?_
          rotate_left
          · show Act.put _ (some 94) _ = _
            simp only [Act.put, List.setIfInBounds_toArray, List.set_cons_zero, List.set_cons_succ, i64_w, i32_w]
            rfl
          refine rgp 8 95 ?_
          refine rgp 9 96 ?_
          refine rgp 10 97 ?_
          refine one_ (i := 11) (N := none) #[true, true, true, true, true, true, true, true, true, true, true, true, false, false, false] rfl rfl (by kernel_rfl) (by decide) (fun K hK => ?_)
          have cz := HL2.out.c4; have fz := HL2.out.fz 4
          refine skip_ (w1 := ?_) (by kernel_rfl) rfl ?_ ?_
          rotate_left
          · go_simp
            rfl
          have s1 := HL2.out.set 4 (.int .i64 (low + (k : Int))) (W' := ⟨base, n, low, low + k, low + k, 1, f⟩) rfl rfl
          have HL3 := Aside0.mk s1.1; have HK3 := Aside0.mk (dk_keep HK2.out s1.2 (by decide)); have HB3 := Aside0.mk (HB2.out.setCell (p := ⟨gl, 4, none⟩) HS1.out (.int .i64 (low + (k : Int))))
          clear s1 cz fz HL2 HK2 HB2
          refine hK _ _ HL3.out.c5 (fun hHeld => ?_)
          clear hK K
          generalize v1_.setCell ⟨gl, 4, none⟩ (.int .i64 (low + (k : Int))) = Y_ at *
          refine rgp 12 98 ?_
          refine rgp 13 99 ?_
          refine one_ (i := 14) (N := none) #[true, true, true, true, true, true, true, true, true, true, true, true, true, true, true] rfl rfl (by kernel_rfl) (by decide) (fun K hK => ?_)
          have cz := HL3.out.c6; have fz := HL3.out.fz 6
          rw [show (latestF d (WS.base ⟨base, n, low, 1, low + (k : Int), 1, f⟩) (WS.n ⟨base, n, low, 1, low + (k : Int), 1, f⟩).toNat) = latestF d base n.toNat from rfl, HLE1.out]
          refine skip_ (w1 := ?_) (by kernel_rfl) rfl ?_ ?_
          rotate_left
          · go_simp
            rfl
          have s1 := HL3.out.set 6 (.int .u32 (latestF d base n.toNat + 1)) (W' := ⟨base, n, low, low + k, low + k, latestF d base n.toNat + 1, f⟩) rfl rfl
          have HL4 := Aside0.mk s1.1; have HK4 := Aside0.mk (dk_keep HK3.out s1.2 (by decide)); have HB4 := Aside0.mk (HB3.out.setCell (p := ⟨gl, 6, none⟩) HS1.out (.int .u32 (latestF d base n.toNat + 1)))
          clear s1 cz fz HL3 HK3 HB3
          refine hK _ _ HL4.out.c5 (fun hHeld => ?_)
          clear hK K
          refine done_ (by kernel_rfl) ?_
          go_wp2
          (try rw [Exit.noGoto_ret])
          go_ret2
          have HQ := show openW d base n low = ⟨base, n, low, low + k, low + k, latestF d base n.toNat + 1, f⟩ by unfold openW; rw [← HR.out, ← HRE.out]
          exact ⟨gl, m, cc, rfl, HCC.out _ HB4.out, by rw [HQ]; exact HL4.out, HK4.out⟩
        · have t2 : decide (we < last) = false := decide_eq_false hel
          have HRE := Aside0.mk (show scanW d base n j (low + k + 1) we (fun i => if i = low + k then some wb else f i) = R by rw [← HSN.out, if_neg hel])
          clear hel
          go_upto_region 15 with (fail)
          clear x0 x2 c5 t1 t2
          have HB1 := Aside0.mk HB.out.drew; have HL1 := Aside0.mk HL.out.drew; have HK1 := Aside0.mk HK.out.drew
          have HX1 := Aside0.mk (show w5.drew.heap[bx]? = some (.cells #[.int .u32 we, .int .u32 wi, .string wb] 97 (0, 0)) from HX.out)
          clear HB HL HK HX
          have c5 : w5.drew.cell? ⟨gl, 5, none⟩ = some (.int .i64 (low + k)) := HL1.out.c5
          have c7 := HL1.out.c7
          refine start_ (n := 11) (S := fun w' => w'.cell? ⟨gl, 5, none⟩ = some (.int .i64 (low + k)) ∧ w'.cell? ⟨gl, 7, none⟩ = some (.map (some m)) ∧ w'.cell? ⟨bx, 2, none⟩ = some (.string wb)) (ds := [10]) #[false, false, false, false, false, false, false, false, false, false, false] (by kernel_rfl) rfl rfl ⟨c5, c7, blk_cell HX1.out 2⟩ (fun hHeld => ?_)
          refine rgp 0 70 ?_
          refine rgp 1 71 ?_
          refine rgp 2 72 ?_
          refine rgp 4 74 ?_
          refine rgp 5 75 ?_
          refine rgp 6 76 ?_
          refine rgp 8 78 ?_
          refine rgt 3 73 hHeld ?_
          refine rgt 7 77 hHeld ?_
          refine rgt 9 79 hHeld ?_
          refine last_ (i := 10) (N := none) #[true, true, true, true, true, true, true, true, true, true, true] rfl rfl (by kernel_rfl) (by decide) (fun K hK => ?_)
          generalize w5.drew = X0_ at *
          obtain ⟨ob, hrun, hmp⟩ := run_update_mp (P := Try.prog) (t := 84) (k := 3) (e := 9) (by kernel_rfl) (by kernel_rfl) HL1.out.map (low + k) wb
          refine skip_ (w1 := ?_) (by kernel_rfl) rfl ?_ ?_
          rotate_left
          · go_simp
            rfl
          have s1 := HL1.out.turn hmp
          have HL2 := Aside0.mk s1.1; have HK2 := Aside0.mk (dk_keep HK1.out s1.2 (by decide)); have HB2 := Aside0.mk (below_setBlock HB1.out HS2.out ob)
          clear s1 hrun hmp
          refine hK _ _ ?_
          clear hK K
          refine done_ (by kernel_rfl) ?_
          clear c5 c7 HL1 HK1 HB1 HX1
          generalize setBlock _ m ob = w6 at *
          have c5 : w6.cell? ⟨gl, 5, none⟩ = some (.int .i64 (low + k)) := HL2.out.c5
          have f5 := HL2.out.fz 5
          have hwk : wrap64 (low + (k : Int) + 1) = low + (k : Int) + 1 := by have := HLW.out; have := KJ.out; have := HN.out; have := HNN.out; unfold wrap64; omega
          have s1 := HL2.out.set 5 (.int .i64 (low + (k : Int) + 1)) (W' := ⟨base, n, low, 1, low + ((k + 1 : Nat) : Int), 1, fun i => if i = low + k then some wb else f i⟩) (by rw [show low + ((k + 1 : Nat) : Int) = low + (k : Int) + 1 by omega]; rfl) rfl
          have HL3 := Aside0.mk s1.1; have HK3 := Aside0.mk (dk_keep HK2.out s1.2 (by decide)); have HB3 := Aside0.mk (HB2.out.setCell (p := ⟨gl, 5, none⟩) HS1.out (.int .i64 (low + (k : Int) + 1)))
          clear s1 HL2 HK2 HB2
          go_wp2
          clear c5 f5
          generalize w6.setCell ⟨gl, 5, none⟩ (.int .i64 (low + (k : Int) + 1)) = w7 at *
          go_roundw
          case rel => exact ⟨k + 1, j, we, _, rfl, ⟨by have := KJ.out; omega⟩, HL3, HK3, HB3, ⟨by rw [show low + ((k + 1 : Nat) : Int) = low + k + 1 by omega]; exact HRE.out⟩, HY⟩
          case measure =>
            rw [HL3.out.opOf, HOP.out]
            show n.toNat + low.toNat - (low + ((k + 1 : Nat) : Int)).toNat < n.toNat + low.toNat - (low + (k : Int)).toNat
            have := HLW.out; have := KJ.out
            omega
end
end Go.Proofs.Ytbnglmeljbiglaa.Wl
