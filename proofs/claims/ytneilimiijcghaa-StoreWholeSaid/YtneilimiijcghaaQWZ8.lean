import Derived.Test.YtneilimiijcghaaQWZ0
import Derived.Test.YtneilimiijcghaaQWZ1
import Derived.Test.YtneilimiijcghaaQWZ2
import Derived.Test.YtneilimiijcghaaQWZ3
import Derived.Test.YtneilimiijcghaaQWZ4
import Derived.Test.YtneilimiijcghaaQWZ5
import Derived.Test.YtneilimiijcghaaQWZ6
import Derived.Test.YtneilimiijcghaaQWZ7
namespace Go.Proofs.Ytneilimiijcghaa.St
open Go Go.RowKit Go.ChangeMaps Go.Proofs.Ytneilimiijcghaa.Arr Go.Proofs.Ytneilimiijcghaa.Mp Go.Proofs.Ytneilimiijcghaa.Ow Go.Proofs.Ytneilimiijcghaa.Dk Go.Proofs.YtneilimiijcghaaW.PrintWords Go.Proofs.YtneilimiijcghaaW.PrintLast Go.Proofs.YtneilimiijcghaaW.PrintMore
set_option linter.unusedVariables false
set_option linter.unusedSimpArgs false
theorem ticket_calls (d : DS) (g gs : Nat) (base n tk : Int) (S : Nat → Prop) (w : World) (h : SK w S gs g base n tk d) (ht : 0 ≤ tk ∧ tk < 4294967296) : Calls Try.prog 19 #[.pointer (some ⟨gs, 0, none⟩)] w fun e w' => e = .returned (.int .i64 tk) ∧ Below w.heap.size w w' := by
  have c3 := h.c3
  have hw : wrap64 tk = tk := by unfold wrap64; omega
  clear ht
  go_enter Try.func19, Try.ntmps19
  go_wp2
  go_ret
  rw [show ({ tmps := _, defers := [] } : Act).tmps.getD 2 undef = .int .i64 tk from by first | rfl | (simp [hw])]
  exact ⟨rfl, Below.refl _ _⟩
/-- Whether a store may lie there. -/
def newOk (d : DS) (base n : Int) : Prop := 1 ≤ n ∧ n ≤ 8 ∧ 0 ≤ base ∧ base ≤ (d.safe.length : Int) - (secN n : Int)
theorem snew_calls {N : Nat} (d : DS) (g : Nat) (base n : Int) (S : Nat → Prop) (w : World) (h : DK w S g d) (ho : OkN N d) (hb : base ≤ 1000) (hn : newOk d base n) : Calls Try.prog 8 #[.pointer (some ⟨g, 0, none⟩), .int .i64 base, .int .i64 n] w fun e w' =>
    ∃ gs, e = .returned (.tuple #[.pointer (some ⟨gs, 0, none⟩), .int .i64 0]) ∧ w.heap.size ≤ gs ∧ SK w' (fun k => S k ∧ k ≠ gs) gs g base n 1 d ∧ Below w.heap.size w w' := by
  have HD := Aside0.mk h; have HO := Aside0.mk ho
  obtain ⟨n1, n8, b0, b1⟩ := hn
  have hsn : secN n ≤ 19 := by unfold secN; omega
  have hlen : d.safe.length ≤ 512 := ho.1.2.2.2.1
  have q1 : decide (n < 1) = false := decide_eq_false (by omega)
  have q2 : decide (8 < n) = false := decide_eq_false (by omega)
  have q3 : decide (base < 0) = false := decide_eq_false (by omega)
  have hw : wrap64 ((d.safe.length : Int) - (secN n : Int)) = (d.safe.length : Int) - (secN n : Int) := by unfold wrap64; omega
  have q4 : decide ((d.safe.length : Int) - (secN n : Int) < base) = false := decide_eq_false (by omega)
  have HN8 := Aside0.mk (show 0 ≤ n ∧ n ≤ 1000 by omega)
  clear h ho
  go_enter Try.func8, Try.ntmps8
  go_upto_region 5 with (first | (go_at_call 24; (with_reducible refine (size_calls d g S _ HD.out).mono ?_); rintro e w1 ⟨rfl, hb1⟩; have HD1 := Aside0.mk (HD.out.below hb1); have HB1 := Aside0.mk hb1; clear hb1) | (go_at_call 18; (with_reducible refine (sectors_calls n HN8.out _).mono ?_); rintro e w2 ⟨rfl, hb2⟩; have HD2 := Aside0.mk (HD1.out.below hb2); have HB2 := Aside0.mk (Arr.below_trans HB1.out hb2); clear hb2))
  have HA := Aside0.mk (heap_alloc_new w2 (.cells #[.pointer (some ⟨g, 0, none⟩), .int .i64 base, .int .i64 n, .int .u32 1] TT))
  have hba := (Below.refl w2.heap.size w2).alloc (Nat.le_refl _) (.cells #[.pointer (some ⟨g, 0, none⟩), .int .i64 base, .int .i64 n, .int .u32 1] TT)
  have hsz := HB2.out.size
  go_wp2
  go_ret2
  refine ⟨w2.heap.size, rfl, hsz, ⟨HA.out, fun e => e.2 rfl, (HD2.out.mono fun k hk e => ⟨e, by omega⟩).below hba⟩, Arr.below_trans HB2.out hba⟩
end Go.Proofs.Ytneilimiijcghaa.St
namespace Go.Proofs.Ytneilimiijcghaa.St
open Go Go.RowKit Go.ChangeMaps Go.Proofs.Ytneilimiijcghaa.Arr Go.Proofs.Ytneilimiijcghaa.Mp Go.Proofs.Ytneilimiijcghaa.Ow Go.Proofs.Ytneilimiijcghaa.Dk Go.Proofs.YtneilimiijcghaaW.PrintWords Go.Proofs.YtneilimiijcghaaW.PrintLast Go.Proofs.YtneilimiijcghaaW.PrintMore
set_option linter.unusedVariables false
set_option linter.unusedSimpArgs false
/-- The store that Open tells, or none. -/
def openV (r : Int) (gs : Nat) : Value := if r = 0 then .pointer (some ⟨gs, 0, none⟩) else .pointer none
set_option maxHeartbeats 8000000 in
set_option maxRecDepth 8192 in
theorem sopen_calls {N : Nat} (d : DS) (g : Nat) (base n : Int) (S : Nat → Prop) (w : World) (hS : Top S w) (h : DK w S g d) (ho : OkN N d) (hN : N < 800000) (hb : base ≤ 900) (hn : newOk d base n) (hg : d.gone = false) (hl : latestF d base (secN n) < 4294967290) :
    Calls Try.prog 16 #[.pointer (some ⟨g, 0, none⟩), .int .i64 base, .int .i64 n] w fun x w' => ∃ gs, w.heap.size ≤ gs ∧ x = .returned (.tuple #[openV (repairS base n d).1 gs, .int .i64 (repairS base n d).1]) ∧ SK w' (fun k => S k ∧ k ≠ gs) gs g base n (latestF d base (secN n) + 1) (repairS base n d).2 ∧ FS S w w' := by
  have hl0 := (latest_lt d base (secN n)).1
  have hwl : IntKind.u32.wrap (latestF d base (secN n) + 1) = latestF d base (secN n) + 1 := by rw [IntKind.wrap_u32]; exact Int.emod_eq_of_lt (by omega) (by omega)
  have HO := Aside0.mk ho; have HN := Aside0.mk hN; have HNW := Aside0.mk hn; have HBB := Aside0.mk (show base ≤ 1000 by omega)
  have HI := Aside0.mk (show (0 ≤ base ∧ base ≤ 900) ∧ 0 ≤ n ∧ n ≤ 8 by have := hn.1; have := hn.2.1; have := hn.2.2.1; omega)
  obtain ⟨S1, hS1⟩ : ∃ S1 : Nat → Prop, S1 = fun k => S k ∧ k ≠ w.heap.size := ⟨_, rfl⟩
  have hin : ∀ k, S1 k → S k := fun k e => by rw [hS1] at e; exact e.1
  have HIN := Aside0.mk hin
  have HX := Aside0.mk (show ¬ S1 w.heap.size from fun e => by rw [hS1] at e; exact e.2 rfl)
  obtain ⟨W0, hW0, hE, hB, hT⟩ : ∃ W0, W0 = w.alloc (.cells #[.int .i64 0] TE) ∧ W0.heap[w.heap.size]? = some (.cells #[.int .i64 0] TE (0, 0)) ∧ Below w.heap.size w W0 ∧ Top S1 W0 := by
    refine ⟨_, rfl, heap_alloc_new w _, (Below.refl _ _).alloc (Nat.le_refl _) _, fun k hk => ?_⟩
    simp at hk
    rw [hS1]
    exact ⟨hS k (by omega), by omega⟩
  have HD := Aside0.mk ((h.mono (S2 := S1) (fun k hk e => by rw [hS1]; exact ⟨e, by omega⟩)).below hB)
  have HSZ := Aside0.mk (show W0.heap.size = w.heap.size + 1 by rw [hW0]; simp)
  have HE := Aside0.mk hE; have HB := Aside0.mk hB; have HT := Aside0.mk hT
  clear hE hB hT h ho hN hb hn hS hS1 hin hl0
  go_enter_defers Try.func16, Try.ntmps16
  go_upto_region 1 with (fail)
  rw [← hW0]
  clear hW0
  have e0 : W0.cell? ⟨w.heap.size, 0, none⟩ = some (.int .i64 0) := blk_cell HE.out 0
  have f0 := blk_frozen HE.out 0
  go_upto_region 2 with (go_at_call 8; (with_reducible refine (snew_calls d g base n S1 _ HD.out HO.out HBB.out HNW.out).mono ?_); rintro e w1 ⟨gs, rfl, hgs, hk1, hb1⟩; have HGS := Aside0.mk hgs; have HK1 := Aside0.mk hk1; have HB1 := Aside0.mk (Arr.below_trans HB.out hb1); have HE1 := Aside0.mk ((hb1.block _ (blk_lt HE.out)).trans HE.out); have HT1 := Aside0.mk (HT.out.next hb1.size); clear hb1 hk1 hgs e0 f0; have e0 : w1.cell? ⟨w.heap.size, 0, none⟩ = some (.int .i64 0) := blk_cell HE1.out 0; have f0 := blk_frozen HE1.out 0)
  have HGN := Aside0.mk (show gs ≠ w.heap.size by have := HGS.out; have := HSZ.out; omega)
  have HGW := Aside0.mk (show w.heap.size ≤ gs by have := HGS.out; have := HSZ.out; omega)
  clear HD HE HB HT HGS HSZ e0 f0
  have HX2 := Aside0.mk (show ¬ (S1 w.heap.size ∧ w.heap.size ≠ gs) from fun e => HX.out e.1)
  have HK2 := Aside0.mk (HK1.out.far HX2.out HGN.out 0 (.int .i64 0))
  have HE2 := Aside0.mk (show (w1.setCell ⟨w.heap.size, 0, none⟩ (.int .i64 0)).heap[w.heap.size]? = some (.cells #[.int .i64 0] TE (0, 0)) from set_blk HE1.out 0 (.int .i64 0))
  have HB2 := Aside0.mk (HB1.out.setCell (p := ⟨w.heap.size, 0, none⟩) (by simp) (.int .i64 0))
  have HT2 := Aside0.mk (show Top (fun k => S1 k ∧ k ≠ gs) (w1.setCell ⟨w.heap.size, 0, none⟩ (.int .i64 0)) from fun k hk => ⟨HT1.out k (by simpa using hk), by have := HK1.out.lt; simp at hk; omega⟩)
  clear HK1 HE1 HB1 HT1
  generalize w1.setCell ⟨w.heap.size, 0, none⟩ (.int .i64 0) = W2 at *
  have e0 : W2.cell? ⟨w.heap.size, 0, none⟩ = some (.int .i64 0) := blk_cell HE2.out 0
  have f0 := blk_frozen HE2.out 0
  have HGO := Aside0.mk hg
  clear hg
  go_upto_region 7 with (go_at_call 32; (with_reducible refine (dead_calls d g _ _ HK2.out.dk).mono ?_); rintro e w3 ⟨rfl, hb3⟩; rw [HGO.out]; have HK3 := Aside0.mk (HK2.out.below hb3); have HB3 := Aside0.mk (Arr.below_trans HB2.out hb3); have HE3 := Aside0.mk ((hb3.block _ (blk_lt HE2.out)).trans HE2.out); have HT3 := Aside0.mk (HT2.out.next hb3.size); clear hb3 e0 f0)
  clear HK2 HB2 HE2 HT2
  have c3 := HK3.out.c3
  go_upto_region 8 with (go_at_call 33; (with_reducible refine (latest_calls d g gs base n 1 _ _ HK3.out HO.out (by have := HI.out; omega)).mono ?_); rintro e w4 ⟨rfl, hb4⟩; have HK4 := Aside0.mk (HK3.out.below hb4); have HB4 := Aside0.mk (Arr.below_trans HB3.out hb4); have HE4 := Aside0.mk ((hb4.block _ (blk_lt HE3.out)).trans HE3.out); have HT4 := Aside0.mk (HT3.out.next hb4.size); clear hb4 c3; have f3 := blk_frozen HK4.out.blk 3; have c3 := HK4.out.c3)
  clear HK3 HB3 HE3 HT3 f3 c3
  have HK5 := Aside0.mk (HK4.out.bump (latestF d base (secN n) + 1))
  have HE5 := Aside0.mk ((Below.heap_setCell w4 ⟨gs, 3, none⟩ (.int .u32 (latestF d base (secN n) + 1)) w.heap.size HGN.out.symm).trans HE4.out)
  have F5 := Aside0.mk (((FS.refl S w).below HB4.out).setCell (p := ⟨gs, 3, none⟩) (.inr HGW.out) (.int .u32 (latestF d base (secN n) + 1)))
  have HT5 := Aside0.mk (show Top (fun k => S1 k ∧ k ≠ gs) (w4.setCell ⟨gs, 3, none⟩ (.int .u32 (latestF d base (secN n) + 1))) from HT4.out.next (by simp))
  clear HK4 HE4 HT4 HB4
  generalize w4.setCell ⟨gs, 3, none⟩ (.int .u32 (latestF d base (secN n) + 1)) = W5 at *
  have HUP := Aside0.mk (show ∀ k, (S1 k ∧ k ≠ gs) → S k from fun k e => HIN.out k e.1)
  have HRC := Aside0.mk (repair_calls d g gs base n (latestF d base (secN n) + 1) (fun k => S1 k ∧ k ≠ gs) W5 HT5.out HK5.out HO.out (by have := HN.out; omega) (by have := HI.out; omega))
  by_cases e1 : (repairS base n d).1 = 0
  rotate_left
  · have EN := Aside0.mk (show endS (repairS base n d).1 = gaveUp (repairS base n d).1 from if_neg e1)
    have ER := Aside0.mk e1
    clear e1
    go_wp2_with (go_at_call 34; (with_reducible refine HRC.out.mono ?_); rintro e w8 ⟨hx, hk, hf⟩; rw [EN.out] at hx; subst hx)
    have K9 := Aside0.mk hk; have E9 := Aside0.mk (hf.old HE5.out HX2.out); have F9 := Aside0.mk (F5.out.trans (fs_mono hf HUP.out)); clear hk hf
    refine leaves_cons (f := 26) (args := #[.pointer (some ⟨w.heap.size, 0, none⟩)]) (by simp) (by simp [go_sem]) ?_
    refine (caught_up ⟨w.heap.size, 0, none⟩ 0 (repairS base n d).1 [] _ (blk_cell E9.out 0) (blk_frozen E9.out 0)).mono ?_
    rintro e u' w'' ⟨rfl, rfl, rfl⟩
    have hc1 : _ = some (Value.int .i64 (repairS base n d).1) := blk_cell (set_blk E9.out 0 (.int .i64 (repairS base n d).1)) 0
    refine ⟨.tuple #[.pointer none, .int .i64 (repairS base n d).1], ?_, ?_⟩
    · simp [results, Try.results16, go_sem, hc1]
    refine ⟨gs, HGW.out, by rw [show openV (repairS base n d).1 gs = .pointer none from if_neg ER.out], ?_, F9.out.setCell (p := ⟨w.heap.size, 0, none⟩) (.inr (by simp)) _⟩
    exact (K9.out.far HX2.out HGN.out 0 _).more (fun k e => ⟨HIN.out k e.1, e.2⟩) (fun e => e.2 rfl)
  have EN := Aside0.mk (show endS (repairS base n d).1 = .returned (.tuple #[]) from if_pos e1)
  have ER := Aside0.mk e1
  clear e1
  go_upto_region 9 with (go_at_call 34; (with_reducible refine HRC.out.mono ?_); rintro e w8 ⟨hx, hk, hf⟩; rw [EN.out] at hx; subst hx; have HK8 := Aside0.mk hk; have HE8 := Aside0.mk (hf.old HE5.out HX2.out); have F8 := Aside0.mk (F5.out.trans (fs_mono hf HUP.out)); clear hk hf)
  have e0 : w8.cell? ⟨w.heap.size, 0, none⟩ = some (.int .i64 0) := blk_cell HE8.out 0
  have f0 := blk_frozen HE8.out 0
  go_wp2
  refine leaves_cons (f := 26) (args := #[.pointer (some ⟨w.heap.size, 0, none⟩)]) (by simp) (by simp [go_sem]) ?_
  refine (caught_idle ⟨w.heap.size, 0, none⟩ _).mono ?_
  rintro e u' w'' ⟨rfl, rfl, rfl⟩
  have hc1 : _ = some (Value.int .i64 0) := blk_cell (set_blk HE8.out 0 (.int .i64 0)) 0
  refine ⟨.tuple #[.pointer (some ⟨gs, 0, none⟩), .int .i64 0], ?_, ?_⟩
  · simp [results, Try.results16, go_sem, hc1]
  refine ⟨gs, HGW.out, by rw [show openV (repairS base n d).1 gs = .pointer (some ⟨gs, 0, none⟩) from if_pos ER.out, ER.out], ?_, F8.out.setCell (p := ⟨w.heap.size, 0, none⟩) (.inr (by simp)) _⟩
  exact (HK8.out.far HX2.out HGN.out 0 _).more (fun k e => ⟨HIN.out k e.1, e.2⟩) (fun e => e.2 rfl)
end Go.Proofs.Ytneilimiijcghaa.St
