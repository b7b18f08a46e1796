import Derived.Test.YtcelfhoomhmioaaPEZ0
import Derived.Test.YtcelfhoomhmioaaPEZ1
import Derived.Test.YtcelfhoomhmioaaPEZ2
import Derived.Test.YtcelfhoomhmioaaPEZ3
import Derived.Test.YtcelfhoomhmioaaPEZ4
import Derived.Test.YtcelfhoomhmioaaPEZ5
import Derived.Test.YtcelfhoomhmioaaPEZ6
import Derived.Test.YtcelfhoomhmioaaPEZ14
import Derived.Test.YtcelfhoomhmioaaPEZ15
set_option maxRecDepth 8192
namespace Go.Proofs.Ytcelfhoomhmioaa.St
open Go.Proofs.Ytcelfhoomhmioaa.Rgn
open Go Go.RowKit Go.ChangeMaps Go.Proofs.Ytcelfhoomhmioaa.Arr Go.Proofs.Ytcelfhoomhmioaa.Mp Go.Proofs.Ytcelfhoomhmioaa.Ow Go.Proofs.Ytcelfhoomhmioaa.Dk Go.Proofs.YtcelfhoomhmioaaW.PrintWords Go.Proofs.YtcelfhoomhmioaaW.PrintLast Go.Proofs.YtcelfhoomhmioaaW.PrintMore
set_option linter.unusedVariables false
set_option linter.unusedSimpArgs false
/-- What Read says: the page, the error. -/
def storeR (d : DS) (base n i : Int) : Int × ByteArray × Int :=
  if i < 0 ∨ n ≤ i then (0, ⟨#[]⟩, 2)
  else if readE d (base + (3 + 2 * i)) ≠ 0 then (0, ⟨#[]⟩, readE d (base + (3 + 2 * i)))
  else if (readS d (base + (3 + 2 * i))).toList = (noughts 128).toList ∧ (readS d (base + (3 + 2 * i) + 1)).toList = (readS d (base + (3 + 2 * i))).toList then (0, noughts 220, 0)
  else if (sreadF d (base + (3 + 2 * i)) (2 * i)).2.2.2 = true ∧ (sreadF d (base + (3 + 2 * i + 1)) (2 * i + 1)).2.2.2 = true ∧ (sreadF d (base + (3 + 2 * i)) (2 * i)).1 = (sreadF d (base + (3 + 2 * i + 1)) (2 * i + 1)).1 then
    (if (X12.punF ((sreadF d (base + (3 + 2 * i)) (2 * i)).2.2.1 ++ (sreadF d (base + (3 + 2 * i + 1)) (2 * i + 1)).2.2.1)).2.2 = 0 then X12.punF ((sreadF d (base + (3 + 2 * i)) (2 * i)).2.2.1 ++ (sreadF d (base + (3 + 2 * i + 1)) (2 * i + 1)).2.2.1) else (0, ⟨#[]⟩, 8))
  else (0, ⟨#[]⟩, 8)
theorem body_le (d : DS) (p i : Int) : (sreadF d p i).2.2.1.size ≤ 112 := by
  unfold sreadF
  split
  · exact Nat.zero_le _
  · show (X12.unpackF (readS d p)).2.2.1.size ≤ 112
    unfold X12.unpackF
    split
    · rename_i h
      have h2 := h.2.1
      show (X12.cutB (readS d p)).size ≤ 112
      unfold X12.cutB
      rw [ByteArray.size_extract]
      omega
    · exact Nat.zero_le _
set_option maxHeartbeats 8000000 in
set_option maxRecDepth 8192 in
theorem sRead_calls {N : Nat} (d : DS) (g gs : Nat) (base n tk i : Int) (S : Nat → Prop) (w : World) (h : SK w S gs g base n tk d) (ho : OkN N d) (hi : (0 ≤ base ∧ base ≤ 900) ∧ 0 ≤ n ∧ n ≤ 8) :
    Calls Try.prog 17 #[.pointer (some ⟨gs, 0, none⟩), .int .i64 i] w fun x w' => x = .returned (.tuple #[.agg #[.int .i64 (storeR d base n i).1, .string (storeR d base n i).2.1], .int .i64 (storeR d base n i).2.2]) ∧ Below w.heap.size w w' := by
  have HO := Aside0.mk ho; have HI := Aside0.mk hi
  obtain ⟨W0, hW0, hE, hB⟩ : ∃ W0, W0 = w.alloc (.cells #[.int .i64 0, .string ⟨#[]⟩] TP) ∧ W0.heap[w.heap.size]? = some (.cells #[.int .i64 0, .string ⟨#[]⟩] TP (0, 0)) ∧ Below w.heap.size w W0 := ⟨_, rfl, heap_alloc_new w _, (Below.refl _ _).alloc (Nat.le_refl _) _⟩
  have HK := Aside0.mk (h.below hB); have HE := Aside0.mk hE; have HB := Aside0.mk hB
  clear h ho hE hB
  go_enter Try.func17, Try.ntmps17
  go_upto_region 1 with (fail)
  rw [← hW0]
  clear hW0
  have c2 := HK.out.c2
  have e0 : W0.cell? ⟨w.heap.size, 0, none⟩ = some (.int .i64 0) := blk_cell HE.out 0; have e1 : W0.cell? ⟨w.heap.size, 1, none⟩ = some (.string ⟨#[]⟩) := blk_cell HE.out 1; have f0 := blk_frozen HE.out 0; have f1 := blk_frozen HE.out 1
  by_cases i0 : i < 0
  · have q0 : decide (i < 0) = true := decide_eq_true i0
    have q0n : (i < 0) = True := by rw [eq_iff_iff, iff_true]; exact i0
    have HR := Aside0.mk (show storeR d base n i = (0, ⟨#[]⟩, 2) by unfold storeR; rw [if_pos (.inl i0)])
    clear hi i0
    go_wp2
    have b2 := set_blk (set_blk HE.out 0 (.int .i64 0)) 1 (.string ⟨#[]⟩)
    refine bodyPost_ret (results_ct rfl _ _ _ _ _ _ _ rfl b2 Try.underlying35 rfl rfl) rfl ⟨?_, ?_⟩
    · rw [HR.out]; rfl
    · exact (HB.out.setCell (by simp) _).setCell (by simp) _
  have q0 : decide (i < 0) = false := decide_eq_false i0
  have q0n : (i < 0) = False := by rw [eq_iff_iff, iff_false]; exact i0
  by_cases i1 : n ≤ i
  · have q1 : decide (n ≤ i) = true := decide_eq_true i1
    have q1n : (n ≤ i) = True := by rw [eq_iff_iff, iff_true]; exact i1
    have HR := Aside0.mk (show storeR d base n i = (0, ⟨#[]⟩, 2) by unfold storeR; rw [if_pos (.inr i1)])
    clear hi i0 i1
    go_wp2
    have b2 := set_blk (set_blk HE.out 0 (.int .i64 0)) 1 (.string ⟨#[]⟩)
    refine bodyPost_ret (results_ct rfl _ _ _ _ _ _ _ rfl b2 Try.underlying35 rfl rfl) rfl ⟨?_, ?_⟩
    · rw [HR.out]; rfl
    · exact (HB.out.setCell (by simp) _).setCell (by simp) _
  have q1 : decide (n ≤ i) = false := decide_eq_false i1
  have q1n : (n ≤ i) = False := by rw [eq_iff_iff, iff_false]; exact i1
  have HI2 := Aside0.mk (show 0 ≤ i ∧ i < n by omega)
  have u1 : wrap64 (2 * i) = 2 * i := by unfold wrap64; omega
  have u2 : wrap64 (3 + 2 * i) = 3 + 2 * i := by unfold wrap64; omega
  have HW1 := Aside0.mk (show wrap64 (base + (3 + 2 * i)) = base + (3 + 2 * i) by unfold wrap64; omega)
  have HW2 := Aside0.mk (show wrap64 (base + (3 + 2 * i) + 1) = base + (3 + 2 * i) + 1 by unfold wrap64; omega)
  have u3 : wrap64 (3 + 2 * i + 1) = 3 + 2 * i + 1 := by unfold wrap64; omega
  have u4 : wrap64 (2 * i + 1) = 2 * i + 1 := by unfold wrap64; omega
  have HSR := Aside0.mk (show storeR d base n i = _ by unfold storeR; rw [if_neg (by omega)])
  clear hi i0 i1
  go_upto_region 6 with (fail)
  clear q0 q0n q1 q1n c2 e0 e1 f0 f1
  have HK1 := Aside0.mk HK.out.drew; have HB1 := Aside0.mk HB.out.drew
  have HE1 := Aside0.mk (show W0.drew.heap[w.heap.size]? = some (.cells #[.int .i64 0, .string ⟨#[]⟩] TP (0, 0)) from HE.out)
  have c0 := HK1.out.c0; have c1 := HK1.out.c1
  clear HK HB HE
  refine start_ (n := 16) (S := fun w' => w'.cell? ⟨gs, 0, none⟩ = some (.pointer (some ⟨g, 0, none⟩)) ∧ w'.cell? ⟨gs, 1, none⟩ = some (.int .i64 base)) (ds := []) #[false, false, false, false, false, false, false, false, false, false, false, false, false, false, false, false] (by kernel_rfl) rfl rfl ⟨c0, c1⟩ (fun hHeld => ?_)
  refine rgp 0 36 ?_
  refine rgp 1 37 ?_
  refine rgp 2 38 ?_
  refine rgp 4 40 ?_
  refine rgp 5 41 ?_
  refine rgp 6 42 ?_
  refine rgp 8 44 ?_
  refine rgt 3 39 hHeld ?_
  refine rgt 7 43 hHeld ?_
  refine rgp 9 45 ?_
  refine one_ (i := 10) (N := some 46) #[true, true, true, true, true, true, true, true, true, true, true, false, false, false, false, false] rfl rfl (by kernel_rfl) (by decide) (fun K hK => ?_)
  generalize W0.drew = X0_ at *
  refine goes_ Try.func34 (by kernel_rfl) rfl #[.pointer (some ⟨g, 0, none⟩), .int .i64 (wrap64 (base + (3 + 2 * i)))] (by rfl) rfl rfl (by (try simp only [List.map_toArray, List.map_cons, List.map_nil]); first | done | rfl) ?_
  rw [HW1.out]
  refine (read_calls d g (base + (3 + 2 * i)) S _ HK1.out.dk HO.out.ok).mono ?_
  rintro e v1_ ⟨rfl, hb1⟩
  refine ⟨_, rfl, ?_⟩
  have HK2 := Aside0.mk (HK1.out.below hb1); have HB2 := Aside0.mk (Arr.below_trans HB1.out hb1); have HE2 := Aside0.mk ((hb1.block _ (blk_lt HE1.out)).trans HE1.out)
  clear hb1 HK1 HB1 HE1
  refine hK _ _ ⟨HK2.out.c0, HK2.out.c1⟩ (fun hHeld => ?_)
  clear hK K
  refine norm_ (a' := ?_) ?_ ?_
  rotate_left
  · show Act.put _ (some 46) _ = _
    simp only [Act.put, List.setIfInBounds_toArray, List.set_cons_zero, List.set_cons_succ, i64_w, i32_w]
    rfl
  refine rgp 11 35 ?_
  refine rgp 12 47 ?_
  refine rgp 13 48 ?_
  refine rgp 14 7 ?_
  refine rgp 15 8 ?_
  refine done_ (by kernel_rfl) ?_
  clear hHeld c0 c1
  by_cases re : readE d (base + (3 + 2 * i)) = 0
  rotate_left
  · have HR := Aside0.mk (show storeR d base n i = (0, ⟨#[]⟩, readE d (base + (3 + 2 * i))) by rw [HSR.out, if_pos re])
    have r0 : (readE d (base + (3 + 2 * i)) == 0) = false := by simpa using re
    have r1 : (readE d (base + (3 + 2 * i)) != 0) = true := by simpa using re
    have e0 : v1_.cell? ⟨w.heap.size, 0, none⟩ = some (.int .i64 0) := blk_cell HE2.out 0; have e1 : v1_.cell? ⟨w.heap.size, 1, none⟩ = some (.string ⟨#[]⟩) := blk_cell HE2.out 1; have f0 := blk_frozen HE2.out 0; have f1 := blk_frozen HE2.out 1
    clear re
    go_wp2
    have b2 := set_blk (set_blk HE2.out 0 (.int .i64 0)) 1 (.string ⟨#[]⟩)
    refine bodyPost_ret (results_ct rfl _ _ _ _ _ _ _ rfl b2 Try.underlying35 rfl rfl) rfl ⟨?_, ?_⟩
    · rw [HR.out]; rfl
    · exact (HB2.out.setCell (by simp) _).setCell (by simp) _
  have HSR2 := Aside0.mk (show storeR d base n i = _ by rw [HSR.out, if_neg (by simp [re])])
  have r0 : (readE d (base + (3 + 2 * i)) == 0) = true := by simpa using re
  have r1 : (readE d (base + (3 + 2 * i)) != 0) = false := by simpa using re
  clear re HSR
  go_upto_region 9 with (fail)
  clear r0 r1
  have HK3 := Aside0.mk HK2.out.drew; have HB3 := Aside0.mk HB2.out.drew
  have HE3 := Aside0.mk (show v1_.drew.heap[w.heap.size]? = some (.cells #[.int .i64 0, .string ⟨#[]⟩] TP (0, 0)) from HE2.out)
  have c0 := HK3.out.c0; have c1 := HK3.out.c1
  clear HK2 HB2 HE2
  generalize hsa : readS d (base + (3 + 2 * i)) = sa at *
  refine start_ (n := 17) (S := fun w' => w'.cell? ⟨gs, 0, none⟩ = some (.pointer (some ⟨g, 0, none⟩)) ∧ w'.cell? ⟨gs, 1, none⟩ = some (.int .i64 base)) (ds := []) #[false, false, false, false, false, false, false, false, false, false, false, false, false, false, false, false, false] (by kernel_rfl) rfl rfl ⟨c0, c1⟩ (fun hHeld => ?_)
  refine rgp 0 54 ?_
  refine rgp 1 55 ?_
  refine rgp 2 56 ?_
  refine rgp 4 58 ?_
  refine rgp 5 59 ?_
  refine rgp 6 60 ?_
  refine rgp 8 62 ?_
  refine rgt 3 57 hHeld ?_
  refine rgt 7 61 hHeld ?_
  refine rgp 9 63 ?_
  refine rgp 10 64 ?_
  refine one_ (i := 11) (N := some 65) #[true, true, true, true, true, true, true, true, true, true, true, true, false, false, false, false, false] rfl rfl (by kernel_rfl) (by decide) (fun K hK => ?_)
  generalize v1_.drew = X1_ at *
  refine goes_ Try.func34 (by kernel_rfl) rfl #[.pointer (some ⟨g, 0, none⟩), .int .i64 (wrap64 (wrap64 (base + (3 + 2 * i)) + 1))] (by rfl) rfl rfl (by (try simp only [List.map_toArray, List.map_cons, List.map_nil]); first | done | rfl) ?_
  rw [HW1.out, HW2.out]
  refine (read_calls d g (base + (3 + 2 * i) + 1) S _ HK3.out.dk HO.out.ok).mono ?_
  rintro e v1_ ⟨rfl, hb1⟩
  refine ⟨_, rfl, ?_⟩
  have HK4 := Aside0.mk (HK3.out.below hb1); have HB4 := Aside0.mk (Arr.below_trans HB3.out hb1); have HE4 := Aside0.mk ((hb1.block _ (blk_lt HE3.out)).trans HE3.out)
  clear hb1 HK3 HB3 HE3
  refine hK _ _ ⟨HK4.out.c0, HK4.out.c1⟩ (fun hHeld => ?_)
  clear hK K
  refine norm_ (a' := ?_) ?_ ?_
  rotate_left
  · show Act.put _ (some 65) _ = _
    simp only [Act.put, List.setIfInBounds_toArray, List.set_cons_zero, List.set_cons_succ, i64_w, i32_w]
    rfl
  refine rgp 12 53 ?_
  refine rgp 13 66 ?_
  refine rgp 14 67 ?_
  refine rgp 15 9 ?_
  refine rgp 16 10 ?_
  refine done_ (by kernel_rfl) ?_
  clear hHeld c0 c1
  generalize hsb : readS d (base + (3 + 2 * i) + 1) = sb at *
  by_cases z1 : sa.toList = (noughts 128).toList
  · have t1 : (sa.toList == (noughts 128).toList) = true := beq_iff_eq.mpr z1
    by_cases z2 : sb.toList = sa.toList
    · have t2 : (sb.toList == sa.toList) = true := beq_iff_eq.mpr z2
      have HR := Aside0.mk (show storeR d base n i = (0, noughts 220, 0) by rw [HSR2.out, if_pos ⟨z1, z2⟩])
      clear z1 z2
      go_upto_region 11 with (go_at_call 35; (with_reducible refine (zero_calls _).mono ?_); rintro e w5 ⟨rfl, hb5⟩; have HK5 := Aside0.mk (HK4.out.below hb5); have HB5 := Aside0.mk (Arr.below_trans HB4.out hb5); have HE5 := Aside0.mk ((hb5.block _ (blk_lt HE4.out)).trans HE4.out); clear hb5)
      go_wp2_with (go_at_call 36; (with_reducible refine (Page.empty_calls _).mono ?_); rintro e w6 ⟨rfl, hb6⟩; have HB6 := Aside0.mk (Arr.below_trans HB5.out hb6); have HE6 := Aside0.mk ((hb6.block _ (blk_lt HE5.out)).trans HE5.out); clear hb6; have e0 : w6.cell? ⟨w.heap.size, 0, none⟩ = some (.int .i64 0) := blk_cell HE6.out 0; have e1 : w6.cell? ⟨w.heap.size, 1, none⟩ = some (.string ⟨#[]⟩) := blk_cell HE6.out 1; have f0 := blk_frozen HE6.out 0; have f1 := blk_frozen HE6.out 1)
      have b2 := set_blk (set_blk HE6.out 0 (.int .i64 0)) 1 (.string (noughts 220))
      refine bodyPost_ret (results_ct rfl _ _ _ _ _ _ _ rfl b2 Try.underlying35 rfl rfl) rfl ⟨?_, ?_⟩
      · rw [HR.out]; rfl
      · exact (HB6.out.setCell (by simp) _).setCell (by simp) _
    have t2 : (sb.toList == sa.toList) = false := beq_eq_false_iff_ne.mpr z2
    have HZ := Aside0.mk (show ¬ (sa.toList = (noughts 128).toList ∧ sb.toList = sa.toList) from fun e => z2 e.2)
    obtain ⟨xe, xi, xb, xk, hx⟩ : ∃ a b c e, sreadF d (base + (3 + 2 * i)) (2 * i) = (a, b, c, e) := ⟨_, _, _, _, rfl⟩
    obtain ⟨ye, yi, yb, yk, hy⟩ : ∃ a b c e, sreadF d (base + (3 + 2 * i + 1)) (2 * i + 1) = (a, b, c, e) := ⟨_, _, _, _, rfl⟩
    have HBX := Aside0.mk (show xb.size ≤ 112 by have := body_le d (base + (3 + 2 * i)) (2 * i); rw [hx] at this; exact this)
    have HBY := Aside0.mk (show yb.size ≤ 112 by have := body_le d (base + (3 + 2 * i + 1)) (2 * i + 1); rw [hy] at this; exact this)
    clear z1 z2
    have HRR := Aside0.mk (show storeR d base n i = (if xk = true ∧ yk = true ∧ xe = ye then (if (X12.punF (xb ++ yb)).2.2 = 0 then X12.punF (xb ++ yb) else (0, ⟨#[]⟩, 8)) else (0, ⟨#[]⟩, 8)) by rw [HSR2.out, if_neg HZ.out, hx, hy])
    have HX := Aside0.mk hx; have HY := Aside0.mk hy
    clear hx hy HZ HSR2
    have HA1 := Aside0.mk (show (0 ≤ base ∧ base ≤ 1000) ∧ 0 ≤ 3 + 2 * i ∧ 3 + 2 * i ≤ 1000 by have := HI.out; have := HI2.out; omega)
    have HA2 := Aside0.mk (show (0 ≤ base ∧ base ≤ 1000) ∧ 0 ≤ 3 + 2 * i + 1 ∧ 3 + 2 * i + 1 ≤ 1000 by have := HI.out; have := HI2.out; omega)
    go_upto_region 13 with (first | (go_at_call 35; (with_reducible refine (zero_calls _).mono ?_); rintro e w5 ⟨rfl, hb5⟩; have HK5 := Aside0.mk (HK4.out.below hb5); have HB5 := Aside0.mk (Arr.below_trans HB4.out hb5); have HE5 := Aside0.mk ((hb5.block _ (blk_lt HE4.out)).trans HE4.out); clear hb5) | (go_at_call 37; (with_reducible refine (sread_calls d g gs base n tk (3 + 2 * i) (2 * i) S _ HK5.out HO.out HA1.out).mono ?_); rintro e w6 ⟨rfl, hb6⟩; rw [HX.out]; have HK6 := Aside0.mk (HK5.out.below hb6); have HB6 := Aside0.mk (Arr.below_trans HB5.out hb6); have HE6 := Aside0.mk ((hb6.block _ (blk_lt HE5.out)).trans HE5.out); clear hb6))
    have HC := Aside0.mk (heap_alloc_new w6 (.cells #[.int .u32 xe, .int .u32 xi, .string xb] TB7))
    have hba := (Below.refl w6.heap.size w6).alloc (Nat.le_refl _) (.cells #[.int .u32 xe, .int .u32 xi, .string xb] TB7)
    have HK7 := Aside0.mk (HK6.out.below hba); have HB7 := Aside0.mk (Arr.below_trans HB6.out hba); have HE7 := Aside0.mk ((hba.block _ (blk_lt HE6.out)).trans HE6.out)
    clear hba HK6 HB6 HE6 HK5 HB5 HE5 HK4 HB4 HE4
    generalize w6.alloc (.cells #[.int .u32 xe, .int .u32 xi, .string xb] TB7) = W7 at *
    generalize w6.heap.size = b7 at *
    go_upto_region 14 with (go_at_call 37; (with_reducible refine (sread_calls d g gs base n tk (3 + 2 * i + 1) (2 * i + 1) S _ HK7.out HO.out HA2.out).mono ?_); rintro e w8 ⟨rfl, hb8⟩; rw [HY.out]; have HK8 := Aside0.mk (HK7.out.below hb8); have HB8 := Aside0.mk (Arr.below_trans HB7.out hb8); have HE8 := Aside0.mk ((hb8.block _ (blk_lt HE7.out)).trans HE7.out); have HC8 := Aside0.mk ((hb8.block _ (blk_lt HC.out)).trans HC.out); clear hb8)
    have HF := Aside0.mk (heap_alloc_new w8 (.cells #[.int .u32 ye, .int .u32 yi, .string yb] TB7))
    have hba := (Below.refl w8.heap.size w8).alloc (Nat.le_refl _) (.cells #[.int .u32 ye, .int .u32 yi, .string yb] TB7)
    have HB9 := Aside0.mk (Arr.below_trans HB8.out hba); have HE9 := Aside0.mk ((hba.block _ (blk_lt HE8.out)).trans HE8.out); have HC9 := Aside0.mk ((hba.block _ (blk_lt HC8.out)).trans HC8.out)
    clear hba HK8 HB8 HE8 HC8 HK7 HB7 HE7 HC
    generalize w8.alloc (.cells #[.int .u32 ye, .int .u32 yi, .string yb] TB7) = W9 at *
    generalize w8.heap.size = b9 at *
    have x0 : W9.cell? ⟨b7, 0, none⟩ = some (.int .u32 xe) := blk_cell HC9.out 0; have x2 : W9.cell? ⟨b7, 2, none⟩ = some (.string xb) := blk_cell HC9.out 2
    have y0 : W9.cell? ⟨b9, 0, none⟩ = some (.int .u32 ye) := blk_cell HF.out 0; have y2 : W9.cell? ⟨b9, 2, none⟩ = some (.string yb) := blk_cell HF.out 2
    have e0 : W9.cell? ⟨w.heap.size, 0, none⟩ = some (.int .i64 0) := blk_cell HE9.out 0; have e1 : W9.cell? ⟨w.heap.size, 1, none⟩ = some (.string ⟨#[]⟩) := blk_cell HE9.out 1; have f0 := blk_frozen HE9.out 0; have f1 := blk_frozen HE9.out 1
    cases xk with
    | false =>
      have HR := Aside0.mk (show storeR d base n i = (0, ⟨#[]⟩, 8) by rw [HRR.out, if_neg (by simp)])
      go_wp2
      have b2 := set_blk (set_blk HE9.out 0 (.int .i64 0)) 1 (.string ⟨#[]⟩)
      refine bodyPost_ret (results_ct rfl _ _ _ _ _ _ _ rfl b2 Try.underlying35 rfl rfl) rfl ⟨?_, ?_⟩
      · rw [HR.out]; rfl
      · exact (HB9.out.setCell (by simp) _).setCell (by simp) _
    | true =>
    cases yk with
    | false =>
      have HR := Aside0.mk (show storeR d base n i = (0, ⟨#[]⟩, 8) by rw [HRR.out, if_neg (by simp)])
      go_wp2
      have b2 := set_blk (set_blk HE9.out 0 (.int .i64 0)) 1 (.string ⟨#[]⟩)
      refine bodyPost_ret (results_ct rfl _ _ _ _ _ _ _ rfl b2 Try.underlying35 rfl rfl) rfl ⟨?_, ?_⟩
      · rw [HR.out]; rfl
      · exact (HB9.out.setCell (by simp) _).setCell (by simp) _
    | true =>
    by_cases q : xe = ye
    rotate_left
    · have q0 : (xe == ye) = false := by simpa using q
      have q1 : (xe != ye) = true := by simpa using q
      have HR := Aside0.mk (show storeR d base n i = (0, ⟨#[]⟩, 8) by rw [HRR.out, if_neg (by simp [q])])
      clear q
      go_wp2
      have b2 := set_blk (set_blk HE9.out 0 (.int .i64 0)) 1 (.string ⟨#[]⟩)
      refine bodyPost_ret (results_ct rfl _ _ _ _ _ _ _ rfl b2 Try.underlying35 rfl rfl) rfl ⟨?_, ?_⟩
      · rw [HR.out]; rfl
      · exact (HB9.out.setCell (by simp) _).setCell (by simp) _
    have q0 : (xe == ye) = true := by simpa using q
    have q1 : (xe != ye) = false := by simpa using q
    have HRP := Aside0.mk (show storeR d base n i = (if (X12.punF (xb ++ yb)).2.2 = 0 then X12.punF (xb ++ yb) else (0, ⟨#[]⟩, 8)) by rw [HRR.out, if_pos ⟨rfl, rfl, q⟩])
    clear q HRR
    have o1 : (9223372036854775807 < xb.size + yb.size) = False := by rw [eq_iff_iff, iff_false]; have := HBX.out; have := HBY.out; omega
    obtain ⟨pa, pd, pr, hp⟩ : ∃ a b c, X12.punF (xb ++ yb) = (a, b, c) := ⟨_, _, _, rfl⟩
    have HPU := Aside0.mk hp
    have HRQ := Aside0.mk (show storeR d base n i = (if pr = 0 then (pa, pd, pr) else (0, ⟨#[]⟩, 8)) by rw [HRP.out, hp])
    clear hp HRP
    go_upto_region 17 with (go_at_call 38; (with_reducible refine (X12.punpack_calls (xb ++ yb) _).mono ?_); rintro e w10 ⟨rfl, hb10⟩; rw [HPU.out]; have HB10 := Aside0.mk (Arr.below_trans HB9.out hb10); have HE10 := Aside0.mk ((hb10.block _ (blk_lt HE9.out)).trans HE9.out); clear hb10 e0 e1 f0 f1 x0 x2 y0 y2)
    have HG := Aside0.mk (heap_alloc_new w10 (.cells #[.int .i64 pa, .string pd] TP))
    have hba := (Below.refl w10.heap.size w10).alloc (Nat.le_refl _) (.cells #[.int .i64 pa, .string pd] TP)
    have HB11 := Aside0.mk (Arr.below_trans HB10.out hba); have HE11 := Aside0.mk ((hba.block _ (blk_lt HE10.out)).trans HE10.out)
    clear hba HB10 HE10 HB9 HE9 HC9 HF
    generalize w10.alloc (.cells #[.int .i64 pa, .string pd] TP) = W11 at *
    generalize w10.heap.size = b11 at *
    have g0 : W11.cell? ⟨b11, 0, none⟩ = some (.int .i64 pa) := blk_cell HG.out 0; have g1 : W11.cell? ⟨b11, 1, none⟩ = some (.string pd) := blk_cell HG.out 1
    have e0 : W11.cell? ⟨w.heap.size, 0, none⟩ = some (.int .i64 0) := blk_cell HE11.out 0; have e1 : W11.cell? ⟨w.heap.size, 1, none⟩ = some (.string ⟨#[]⟩) := blk_cell HE11.out 1; have f0 := blk_frozen HE11.out 0; have f1 := blk_frozen HE11.out 1
    by_cases pz : pr = 0
    · have p0 : (pr == 0) = true := by simpa using pz
      have p1 : (pr != 0) = false := by simpa using pz
      have HR := Aside0.mk (show storeR d base n i = (pa, pd, 0) by rw [HRQ.out, if_pos pz, pz])
      clear pz
      go_wp2
      have b2 := set_blk (set_blk HE11.out 0 (.int .i64 pa)) 1 (.string pd)
      refine bodyPost_ret (results_ct rfl _ _ _ _ _ _ _ rfl b2 Try.underlying35 rfl rfl) rfl ⟨?_, ?_⟩
      · rw [HR.out]; rfl
      · exact (HB11.out.setCell (by simp) _).setCell (by simp) _
    · have p0 : (pr == 0) = false := by simpa using pz
      have p1 : (pr != 0) = true := by simpa using pz
      have HR := Aside0.mk (show storeR d base n i = (0, ⟨#[]⟩, 8) by rw [HRQ.out, if_neg pz])
      clear pz
      go_wp2
      have b2 := set_blk (set_blk HE11.out 0 (.int .i64 0)) 1 (.string ⟨#[]⟩)
      refine bodyPost_ret (results_ct rfl _ _ _ _ _ _ _ rfl b2 Try.underlying35 rfl rfl) rfl ⟨?_, ?_⟩
      · rw [HR.out]; rfl
      · exact (HB11.out.setCell (by simp) _).setCell (by simp) _
  have t1 : (sa.toList == (noughts 128).toList) = false := beq_eq_false_iff_ne.mpr z1
  have HZ := Aside0.mk (show ¬ (sa.toList = (noughts 128).toList ∧ sb.toList = sa.toList) from fun e => z1 e.1)
  obtain ⟨xe, xi, xb, xk, hx⟩ : ∃ a b c e, sreadF d (base + (3 + 2 * i)) (2 * i) = (a, b, c, e) := ⟨_, _, _, _, rfl⟩
  obtain ⟨ye, yi, yb, yk, hy⟩ : ∃ a b c e, sreadF d (base + (3 + 2 * i + 1)) (2 * i + 1) = (a, b, c, e) := ⟨_, _, _, _, rfl⟩
  have HBX := Aside0.mk (show xb.size ≤ 112 by have := body_le d (base + (3 + 2 * i)) (2 * i); rw [hx] at this; exact this)
  have HBY := Aside0.mk (show yb.size ≤ 112 by have := body_le d (base + (3 + 2 * i + 1)) (2 * i + 1); rw [hy] at this; exact this)
  clear z1
  have HRR := Aside0.mk (show storeR d base n i = (if xk = true ∧ yk = true ∧ xe = ye then (if (X12.punF (xb ++ yb)).2.2 = 0 then X12.punF (xb ++ yb) else (0, ⟨#[]⟩, 8)) else (0, ⟨#[]⟩, 8)) by rw [HSR2.out, if_neg HZ.out, hx, hy])
  have HX := Aside0.mk hx; have HY := Aside0.mk hy
  clear hx hy HZ HSR2
  have HA1 := Aside0.mk (show (0 ≤ base ∧ base ≤ 1000) ∧ 0 ≤ 3 + 2 * i ∧ 3 + 2 * i ≤ 1000 by have := HI.out; have := HI2.out; omega)
  have HA2 := Aside0.mk (show (0 ≤ base ∧ base ≤ 1000) ∧ 0 ≤ 3 + 2 * i + 1 ∧ 3 + 2 * i + 1 ≤ 1000 by have := HI.out; have := HI2.out; omega)
  go_upto_region 13 with (first | (go_at_call 35; (with_reducible refine (zero_calls _).mono ?_); rintro e w5 ⟨rfl, hb5⟩; have HK5 := Aside0.mk (HK4.out.below hb5); have HB5 := Aside0.mk (Arr.below_trans HB4.out hb5); have HE5 := Aside0.mk ((hb5.block _ (blk_lt HE4.out)).trans HE4.out); clear hb5) | (go_at_call 37; (with_reducible refine (sread_calls d g gs base n tk (3 + 2 * i) (2 * i) S _ HK5.out HO.out HA1.out).mono ?_); rintro e w6 ⟨rfl, hb6⟩; rw [HX.out]; have HK6 := Aside0.mk (HK5.out.below hb6); have HB6 := Aside0.mk (Arr.below_trans HB5.out hb6); have HE6 := Aside0.mk ((hb6.block _ (blk_lt HE5.out)).trans HE5.out); clear hb6))
  have HC := Aside0.mk (heap_alloc_new w6 (.cells #[.int .u32 xe, .int .u32 xi, .string xb] TB7))
  have hba := (Below.refl w6.heap.size w6).alloc (Nat.le_refl _) (.cells #[.int .u32 xe, .int .u32 xi, .string xb] TB7)
  have HK7 := Aside0.mk (HK6.out.below hba); have HB7 := Aside0.mk (Arr.below_trans HB6.out hba); have HE7 := Aside0.mk ((hba.block _ (blk_lt HE6.out)).trans HE6.out)
  clear hba HK6 HB6 HE6 HK5 HB5 HE5 HK4 HB4 HE4
  generalize w6.alloc (.cells #[.int .u32 xe, .int .u32 xi, .string xb] TB7) = W7 at *
  generalize w6.heap.size = b7 at *
  go_upto_region 14 with (go_at_call 37; (with_reducible refine (sread_calls d g gs base n tk (3 + 2 * i + 1) (2 * i + 1) S _ HK7.out HO.out HA2.out).mono ?_); rintro e w8 ⟨rfl, hb8⟩; rw [HY.out]; have HK8 := Aside0.mk (HK7.out.below hb8); have HB8 := Aside0.mk (Arr.below_trans HB7.out hb8); have HE8 := Aside0.mk ((hb8.block _ (blk_lt HE7.out)).trans HE7.out); have HC8 := Aside0.mk ((hb8.block _ (blk_lt HC.out)).trans HC.out); clear hb8)
  have HF := Aside0.mk (heap_alloc_new w8 (.cells #[.int .u32 ye, .int .u32 yi, .string yb] TB7))
  have hba := (Below.refl w8.heap.size w8).alloc (Nat.le_refl _) (.cells #[.int .u32 ye, .int .u32 yi, .string yb] TB7)
  have HB9 := Aside0.mk (Arr.below_trans HB8.out hba); have HE9 := Aside0.mk ((hba.block _ (blk_lt HE8.out)).trans HE8.out); have HC9 := Aside0.mk ((hba.block _ (blk_lt HC8.out)).trans HC8.out)
  clear hba HK8 HB8 HE8 HC8 HK7 HB7 HE7 HC
  generalize w8.alloc (.cells #[.int .u32 ye, .int .u32 yi, .string yb] TB7) = W9 at *
  generalize w8.heap.size = b9 at *
  have x0 : W9.cell? ⟨b7, 0, none⟩ = some (.int .u32 xe) := blk_cell HC9.out 0; have x2 : W9.cell? ⟨b7, 2, none⟩ = some (.string xb) := blk_cell HC9.out 2
  have y0 : W9.cell? ⟨b9, 0, none⟩ = some (.int .u32 ye) := blk_cell HF.out 0; have y2 : W9.cell? ⟨b9, 2, none⟩ = some (.string yb) := blk_cell HF.out 2
  have e0 : W9.cell? ⟨w.heap.size, 0, none⟩ = some (.int .i64 0) := blk_cell HE9.out 0; have e1 : W9.cell? ⟨w.heap.size, 1, none⟩ = some (.string ⟨#[]⟩) := blk_cell HE9.out 1; have f0 := blk_frozen HE9.out 0; have f1 := blk_frozen HE9.out 1
  cases xk with
  | false =>
    have HR := Aside0.mk (show storeR d base n i = (0, ⟨#[]⟩, 8) by rw [HRR.out, if_neg (by simp)])
    go_wp2
    have b2 := set_blk (set_blk HE9.out 0 (.int .i64 0)) 1 (.string ⟨#[]⟩)
    refine bodyPost_ret (results_ct rfl _ _ _ _ _ _ _ rfl b2 Try.underlying35 rfl rfl) rfl ⟨?_, ?_⟩
    · rw [HR.out]; rfl
    · exact (HB9.out.setCell (by simp) _).setCell (by simp) _
  | true =>
  cases yk with
  | false =>
    have HR := Aside0.mk (show storeR d base n i = (0, ⟨#[]⟩, 8) by rw [HRR.out, if_neg (by simp)])
    go_wp2
    have b2 := set_blk (set_blk HE9.out 0 (.int .i64 0)) 1 (.string ⟨#[]⟩)
    refine bodyPost_ret (results_ct rfl _ _ _ _ _ _ _ rfl b2 Try.underlying35 rfl rfl) rfl ⟨?_, ?_⟩
    · rw [HR.out]; rfl
    · exact (HB9.out.setCell (by simp) _).setCell (by simp) _
  | true =>
  by_cases q : xe = ye
  rotate_left
  · have q0 : (xe == ye) = false := by simpa using q
    have q1 : (xe != ye) = true := by simpa using q
    have HR := Aside0.mk (show storeR d base n i = (0, ⟨#[]⟩, 8) by rw [HRR.out, if_neg (by simp [q])])
    clear q
    go_wp2
    have b2 := set_blk (set_blk HE9.out 0 (.int .i64 0)) 1 (.string ⟨#[]⟩)
    refine bodyPost_ret (results_ct rfl _ _ _ _ _ _ _ rfl b2 Try.underlying35 rfl rfl) rfl ⟨?_, ?_⟩
    · rw [HR.out]; rfl
    · exact (HB9.out.setCell (by simp) _).setCell (by simp) _
  have q0 : (xe == ye) = true := by simpa using q
  have q1 : (xe != ye) = false := by simpa using q
  have HRP := Aside0.mk (show storeR d base n i = (if (X12.punF (xb ++ yb)).2.2 = 0 then X12.punF (xb ++ yb) else (0, ⟨#[]⟩, 8)) by rw [HRR.out, if_pos ⟨rfl, rfl, q⟩])
  clear q HRR
  have o1 : (9223372036854775807 < xb.size + yb.size) = False := by rw [eq_iff_iff, iff_false]; have := HBX.out; have := HBY.out; omega
  obtain ⟨pa, pd, pr, hp⟩ : ∃ a b c, X12.punF (xb ++ yb) = (a, b, c) := ⟨_, _, _, rfl⟩
  have HPU := Aside0.mk hp
  have HRQ := Aside0.mk (show storeR d base n i = (if pr = 0 then (pa, pd, pr) else (0, ⟨#[]⟩, 8)) by rw [HRP.out, hp])
  clear hp HRP
  go_upto_region 17 with (go_at_call 38; (with_reducible refine (X12.punpack_calls (xb ++ yb) _).mono ?_); rintro e w10 ⟨rfl, hb10⟩; rw [HPU.out]; have HB10 := Aside0.mk (Arr.below_trans HB9.out hb10); have HE10 := Aside0.mk ((hb10.block _ (blk_lt HE9.out)).trans HE9.out); clear hb10 e0 e1 f0 f1 x0 x2 y0 y2)
  have HG := Aside0.mk (heap_alloc_new w10 (.cells #[.int .i64 pa, .string pd] TP))
  have hba := (Below.refl w10.heap.size w10).alloc (Nat.le_refl _) (.cells #[.int .i64 pa, .string pd] TP)
  have HB11 := Aside0.mk (Arr.below_trans HB10.out hba); have HE11 := Aside0.mk ((hba.block _ (blk_lt HE10.out)).trans HE10.out)
  clear hba HB10 HE10 HB9 HE9 HC9 HF
  generalize w10.alloc (.cells #[.int .i64 pa, .string pd] TP) = W11 at *
  generalize w10.heap.size = b11 at *
  have g0 : W11.cell? ⟨b11, 0, none⟩ = some (.int .i64 pa) := blk_cell HG.out 0; have g1 : W11.cell? ⟨b11, 1, none⟩ = some (.string pd) := blk_cell HG.out 1
  have e0 : W11.cell? ⟨w.heap.size, 0, none⟩ = some (.int .i64 0) := blk_cell HE11.out 0; have e1 : W11.cell? ⟨w.heap.size, 1, none⟩ = some (.string ⟨#[]⟩) := blk_cell HE11.out 1; have f0 := blk_frozen HE11.out 0; have f1 := blk_frozen HE11.out 1
  by_cases pz : pr = 0
  · have p0 : (pr == 0) = true := by simpa using pz
    have p1 : (pr != 0) = false := by simpa using pz
    have HR := Aside0.mk (show storeR d base n i = (pa, pd, 0) by rw [HRQ.out, if_pos pz, pz])
    clear pz
    go_wp2
    have b2 := set_blk (set_blk HE11.out 0 (.int .i64 pa)) 1 (.string pd)
    refine bodyPost_ret (results_ct rfl _ _ _ _ _ _ _ rfl b2 Try.underlying35 rfl rfl) rfl ⟨?_, ?_⟩
    · rw [HR.out]; rfl
    · exact (HB11.out.setCell (by simp) _).setCell (by simp) _
  · have p0 : (pr == 0) = false := by simpa using pz
    have p1 : (pr != 0) = true := by simpa using pz
    have HR := Aside0.mk (show storeR d base n i = (0, ⟨#[]⟩, 8) by rw [HRQ.out, if_neg pz])
    clear pz
    go_wp2
    have b2 := set_blk (set_blk HE11.out 0 (.int .i64 0)) 1 (.string ⟨#[]⟩)
    refine bodyPost_ret (results_ct rfl _ _ _ _ _ _ _ rfl b2 Try.underlying35 rfl rfl) rfl ⟨?_, ?_⟩
    · rw [HR.out]; rfl
    · exact (HB11.out.setCell (by simp) _).setCell (by simp) _
end Go.Proofs.Ytcelfhoomhmioaa.St
