import Derived.Deep.CutBlock
import Derived.Deep.DeepCutAuto
import Derived.Test.YtcfknakmamcinaaQCZ0
import Derived.Test.YtcfknakmamcinaaQCZ1
import Derived.Test.YtcfknakmamcinaaQCZ2
import Derived.Test.YtcfknakmamcinaaQCZ3
import Derived.Test.YtcfknakmamcinaaQCZ4
import Derived.Test.YtcfknakmamcinaaQCZ5
import Derived.Test.YtcfknakmamcinaaQCZ6
import Derived.Test.YtcfknakmamcinaaQCZ7
import Derived.Test.YtcfknakmamcinaaQCZ8
import Derived.Test.YtcfknakmamcinaaQCZ9
import Derived.Test.YtcfknakmamcinaaQCZ10
import Derived.Test.YtcfknakmamcinaaQCZ11
import Derived.Test.YtcfknakmamcinaaQCZ12
import Derived.Test.YtcfknakmamcinaaQCZ13
import Derived.Test.YtcfknakmamcinaaQCZ14
import Derived.Test.YtcfknakmamcinaaQCZ15
import Derived.Test.YtcfknakmamcinaaQCZ16
namespace Go.Proofs.Ytcfknakmamcinaa.Wr
open Go.Proofs.Ytcfknakmamcinaa.Rgn
open Go.Proofs.Ytcfknakmamcinaa.Rp Go.Proofs.Ytcfknakmamcinaa.X4
open Go Go.RowKit Go.ChangeMaps Go.Proofs.Ytcfknakmamcinaa.Arr Go.Proofs.Ytcfknakmamcinaa.Ow Go.Proofs.YtcfknakmamcinaaW.PrintWords Go.Proofs.YtcfknakmamcinaaW.PrintLast Go.Proofs.YtcfknakmamcinaaW.PrintMore
set_option linter.unusedVariables false
set_option linter.unusedSimpArgs false
set_option maxHeartbeats 8000000 in
set_option maxRecDepth 100000 in
theorem rr_six (s : ByteArray) (n : Nat) (x1 : St) (w : World) (hs : s.size ≤ 1000000) (hn : n ≤ s.size) (h0 : smallI (s.extract n s.size, false) = (6, x1)) : Calls Try.prog 19 #[.string s, .int .i64 (n : Int)] w fun x w' => AfterRR s (n : Int) w x w' := by
  have HS := Aside0.mk hs
  have HREC := Aside0.mk (show recI (s.extract n s.size, false) = recI6 x1 by unfold recI; rw [h0]; simp only; rw [if_neg (by decide), if_neg (by decide), if_neg (by decide), if_pos trivial])
  have HX1 := Aside0.mk (show x1.1.size ≤ 1000000 by have h := smallI_le (s.extract n s.size, false); rw [h0] at h; rw [ByteArray.size_extract] at h; have h2 : x1.1.size ≤ min s.size s.size - n := h; omega)
  have HRF0 := Aside0.mk (show rreadF s (n : Int) = (if (recI (s.extract n s.size, false)).2.2 = true ∨ mayB (recI (s.extract n s.size, false)).1 = false then (Rp.zR, 0, 3) else ((recI (s.extract n s.size, false)).1, (s.size : Int) - ((recI (s.extract n s.size, false)).2.1.size : Int), 0)) by unfold rreadF; rw [if_neg (by omega), Int.toNat_natCast])
  have E1 := Aside0.mk h0
  have t1 : decide ((n : Int) < 0) = false := decide_eq_false (by omega)
  have t2 : decide ((s.size : Int) < (n : Int)) = false := decide_eq_false (by omega)
  have t3 : decide (s.size < n) = false := decide_eq_false (by omega)
  have b1 : (0 : Int) ≤ (n : Int) := by omega
  have b2 : (n : Int) ≤ (s.size : Int) := by omega
  clear hs hn h0
  go_enter Try.func19, Try.ntmps19
  go_upto_region 4 with (fail)
  clear t1 t2 t3 b1 b2
  obtain ⟨W0, hW0, HB0, HZ0, HI0⟩ : ∃ W0, W0 = ((w.alloc (.cells #[.int .i64 0, .int .i64 0, .int .i64 0, .int .i64 0, .int .i64 0, .int .i64 0, .int .i64 0, .string ⟨#[]⟩, .string ⟨#[]⟩, .slice none 0 0, .slice none 0 0] 25)).alloc (.cells #[.string (s.extract n s.size), .bool false] 78)) ∧ Below w.heap.size w W0 ∧ W0.heap[w.heap.size]? = some (.cells #[.int .i64 0, .int .i64 0, .int .i64 0, .int .i64 0, .int .i64 0, .int .i64 0, .int .i64 0, .string ⟨#[]⟩, .string ⟨#[]⟩, .slice none 0 0, .slice none 0 0] 25 (0, 0)) ∧ IsS78 w W0 (w.heap.size + 1) (s.extract n s.size) false := by
    refine ⟨_, rfl, ?_, ?_, ?_, ?_⟩
    · exact ((Below.refl _ _).alloc (Nat.le_refl _) _).alloc (by simp) _
    · exact blk_below (heap_alloc_new w _) ((Below.refl _ _).alloc (Nat.le_refl _) _)
    · have h := heap_alloc_new (w.alloc (.cells #[.int .i64 0, .int .i64 0, .int .i64 0, .int .i64 0, .int .i64 0, .int .i64 0, .int .i64 0, .string ⟨#[]⟩, .string ⟨#[]⟩, .slice none 0 0, .slice none 0 0] 25)) (.cells #[.string (s.extract n s.size), .bool false] 78)
      rw [show (w.alloc (.cells #[.int .i64 0, .int .i64 0, .int .i64 0, .int .i64 0, .int .i64 0, .int .i64 0, .int .i64 0, .string ⟨#[]⟩, .string ⟨#[]⟩, .slice none 0 0, .slice none 0 0] 25)).heap.size = w.heap.size + 1 by simp] at h
      exact h
    · show w.heap.size ≤ w.heap.size + 1
      omega
  rw [← hW0]
  clear hW0
  have HB := Aside0.mk HB0; have HZ := Aside0.mk HZ0; have HI := Aside0.mk HI0
  clear HB0 HZ0 HI0
  have HN4 := Aside0.mk (show w.heap.size ≠ w.heap.size + 1 by omega)
  go_upto_region 5 with (go_at_call 34; (with_reducible refine (small_at (w.heap.size + 1) (s.extract n s.size, false) 6 x1 E1.out w _ HI.out HB.out).mono ?_); rintro y_ w1 ⟨rfl, hi_, hb_, hk_⟩; have HZ_n := Aside0.mk (kb_old hk_ HZ.out HN4.out); have HI_n := Aside0.mk (hi_); have HB_n := Aside0.mk (hb_); clear HZ HI HB; have HZ := HZ_n; have HI := HI_n; have HB := HB_n; clear HZ_n HI_n HB_n; clear hi_ hb_ hk_)
  have HO0 := Aside0.mk (heap_alloc_new w1 (.cells #[.int .i64 6, .int .i64 0, .int .i64 0, .int .i64 0, .int .i64 0, .int .i64 0, .int .i64 0, .string ⟨#[]⟩, .string ⟨#[]⟩, .slice none 0 0, .slice none 0 0] 25))
  have hb_ := (Below.refl w1.heap.size w1).alloc (Nat.le_refl _) (.cells #[.int .i64 6, .int .i64 0, .int .i64 0, .int .i64 0, .int .i64 0, .int .i64 0, .int .i64 0, .string ⟨#[]⟩, .string ⟨#[]⟩, .slice none 0 0, .slice none 0 0] 25)
  have HI1 := HI
  have HZ_n := Aside0.mk (blk_below HZ.out hb_)
  have HB_n := Aside0.mk (HB.out.trans (hb_.mono HB.out.size))
  clear HZ HB
  have HZ := HZ_n
  have HB := HB_n
  clear HZ_n HB_n
  have HI_n := Aside0.mk (HI.out.below hb_)
  clear HI
  have HI := HI_n
  clear HI_n
  have HN8 := Aside0.mk (show w1.heap.size ≠ w.heap.size + 1 from Nat.ne_of_gt HI1.out.lt)
  have HN48 := Aside0.mk (show w.heap.size ≠ w1.heap.size from Nat.ne_of_lt (by have := HI1.out.lt; omega))
  have H8 := Aside0.mk (show w.heap.size ≤ w1.heap.size by have := HI1.out.lt; omega)
  have H8g := Aside0.mk (show w.heap.size + 1 < w1.heap.size from HI1.out.lt)
  clear hb_ HI1
  generalize w1.alloc (.cells #[.int .i64 6, .int .i64 0, .int .i64 0, .int .i64 0, .int .i64 0, .int .i64 0, .int .i64 0, .string ⟨#[]⟩, .string ⟨#[]⟩, .slice none 0 0, .slice none 0 0] 25) = u1 at *
  have HO := HO0; clear HO0
  generalize w1.heap.size = o8 at *
  have k0 : u1.cell? ⟨o8, 0, none⟩ = some (.int .i64 6) := blk_cell HO.out 0
  go_upto_region 22 with (fail)
  obtain ⟨bg_, x2, e_⟩ : ∃ v_ y_, fourI x1 = (v_, y_) := ⟨_, _, rfl⟩
  have E2 := Aside0.mk e_
  have HX2 := Aside0.mk (show x2.1.size ≤ 1000000 by have h := fourI_le x1; rw [e_] at h; exact Nat.le_trans h HX1.out)
  clear e_
  go_upto_region 23 with (go_at_call 35; (with_reducible refine (four_at (w.heap.size + 1) x1 bg_ x2 E2.out w _ HI.out HB.out).mono ?_); rintro y_ w2 ⟨rfl, hi_, hb_, hk_⟩; have HO_n := Aside0.mk (kb_old hk_ HO.out HN8.out); have HZ_n := Aside0.mk (kb_old hk_ HZ.out HN4.out); have HI_n := Aside0.mk (hi_); have HB_n := Aside0.mk (hb_); clear HO HZ HI HB; have HO := HO_n; have HZ := HZ_n; have HI := HI_n; have HB := HB_n; clear HO_n HZ_n HI_n HB_n; clear hi_ hb_ hk_; have y6 : w2.cell? ⟨o8, 6, none⟩ = some _ := blk_cell HO.out 6; have f6 := blk_frozen HO.out 6)
  have HI_n := Aside0.mk (HI.out.far (p := ⟨o8, 6, none⟩) HN8.out.symm (.int .i64 bg_))
  have HB_n := Aside0.mk (HB.out.setCell (p := ⟨o8, 6, none⟩) H8.out (.int .i64 bg_))
  have HZ_n := Aside0.mk (keep_set HZ.out HN48.out 6 (.int .i64 bg_))
  have HO_n := Aside0.mk (show (w2.setCell ⟨o8, 6, none⟩ (.int .i64 bg_)).heap[o8]? = some (.cells #[.int .i64 6, .int .i64 0, .int .i64 0, .int .i64 0, .int .i64 0, .int .i64 0, .int .i64 bg_, .string ⟨#[]⟩, .string ⟨#[]⟩, .slice none 0 0, .slice none 0 0] 25 (0, 0)) from set_blk HO.out 6 (.int .i64 bg_))
  clear HI HB HZ HO
  have HI := HI_n
  have HB := HB_n
  have HZ := HZ_n
  have HO := HO_n
  clear HI_n HB_n HZ_n HO_n
  clear y6 f6
  generalize w2.setCell ⟨o8, 6, none⟩ (.int .i64 bg_) = u2 at *
  (try clear k0)
  have k0 : u2.cell? ⟨o8, 0, none⟩ = some (.int .i64 6) := blk_cell HO.out 0
  obtain ⟨n_, x3, e_⟩ : ∃ v_ y_, smallI x2 = (v_, y_) := ⟨_, _, rfl⟩
  have E3 := Aside0.mk e_
  have HX3 := Aside0.mk (show x3.1.size ≤ 1000000 by have h := smallI_le x2; rw [e_] at h; exact Nat.le_trans h HX2.out)
  have HNn_ := Aside0.mk (show 0 ≤ n_ ∧ n_ ≤ 255 by have h := smallI_range x2; rw [e_] at h; exact h)
  clear e_
  go_upto_block 1 with (go_at_call 34; (with_reducible refine (small_at (w.heap.size + 1) x2 n_ x3 E3.out w _ HI.out HB.out).mono ?_); rintro y_ w3 ⟨rfl, hi_, hb_, hk_⟩; have HO_n := Aside0.mk (kb_old hk_ HO.out HN8.out); have HZ_n := Aside0.mk (kb_old hk_ HZ.out HN4.out); have HI_n := Aside0.mk (hi_); have HB_n := Aside0.mk (hb_); clear HO HZ HI HB; have HO := HO_n; have HZ := HZ_n; have HI := HI_n; have HB := HB_n; clear HO_n HZ_n HI_n HB_n; clear hi_ hb_ hk_)
  (try clear k0)
  have k0 : w3.cell? ⟨o8, 0, none⟩ = some (.int .i64 6) := blk_cell HO.out 0
  clear k0
  have HRG := Aside0.mk (show ∀ k, From o8 k → k ≠ w.heap.size + 1 from fun k hk e => by have h1 : o8 ≤ k := hk; have := H8g.out; omega)
  have HRZ := Aside0.mk (show ∀ k, From o8 k → k ≠ w.heap.size from fun k hk e => by have h1 : o8 ≤ k := hk; have := H8g.out; omega)
  have HXs := HX3
  go_cut [11] (fun v wx => ∃ (k9 : Value) (L9 : List S66) (x9 : St) (A9 : Option Addr) (c9 : Nat), v = k9 ∧ Aside0 (rowsTI n_.toNat x3 = (L9, x9)) ∧ Aside0 (L9.length ≤ 255) ∧ Aside0 (x9.1.size ≤ 1000000) ∧ Aside0 (IsS78 w wx (w.heap.size + 1) x9.1 x9.2) ∧ Aside0 (Below w.heap.size w wx) ∧ Aside0 (wx.heap[w.heap.size]? = some (.cells #[.int .i64 0, .int .i64 0, .int .i64 0, .int .i64 0, .int .i64 0, .int .i64 0, .int .i64 0, .string ⟨#[]⟩, .string ⟨#[]⟩, .slice none 0 0, .slice none 0 0] 25 (0, 0))) ∧ Aside0 (wx.heap[o8]? = some (.cells #[.int .i64 6, .int .i64 0, .int .i64 0, .int .i64 0, .int .i64 0, .int .i64 0, .int .i64 bg_, .string ⟨#[]⟩, .string ⟨#[]⟩, .slice A9 L9.length c9, .slice none 0 0] 25 (0, 0))) ∧ Aside0 (Ow wx (From o8) 66 3 (.slice A9 L9.length c9) L9.length (flatT L9)))
  case first =>
    go_wp2_with fail
    go_loopw [11] (fun v wr => ∃ (k9 : Nat) (L9 : List S66) (x9 : St) (u : Value), v = .int .i64 k9 ∧ Aside0 ((k9 : Int) ≤ n_) ∧ Aside0 (rowsTI k9 x3 = (L9, x9)) ∧ Aside0 (L9.length ≤ k9) ∧ Aside0 (x9.1.size ≤ 1000000) ∧ Aside0 (IsS78 w wr (w.heap.size + 1) x9.1 x9.2) ∧ Aside0 (Below w.heap.size w wr) ∧ Aside0 (wr.heap[w.heap.size]? = some (.cells #[.int .i64 0, .int .i64 0, .int .i64 0, .int .i64 0, .int .i64 0, .int .i64 0, .int .i64 0, .string ⟨#[]⟩, .string ⟨#[]⟩, .slice none 0 0, .slice none 0 0] 25 (0, 0))) ∧ Aside0 (wr.heap[o8]? = some (.cells #[.int .i64 6, .int .i64 0, .int .i64 0, .int .i64 0, .int .i64 0, .int .i64 0, .int .i64 bg_, .string ⟨#[]⟩, .string ⟨#[]⟩, u, .slice none 0 0] 25 (0, 0))) ∧ Aside0 (Ow wr (From o8) 66 3 u L9.length (flatT L9))) (fun v _ => n_.toNat - (intOf v).toNat)
    case atStart => exact ⟨0, [], x3, .slice none 0 0, rfl, ⟨HNn_.out.1⟩, ⟨rfl⟩, ⟨Nat.zero_le _⟩, HXs, HI, HB, HZ, HO, ⟨Ow.nil _ _ _ _⟩⟩
    case round =>
      clear HI HB HZ HO HXs
      obtain ⟨k9, L9, x9, u, rfl, K, HJ, HLN, HX, HI, HB, HZ, HO, HOW⟩ := hrel
      obtain ⟨A9, c9, e_, -⟩ := HOW.out.shape
      subst e_
      have gb : wr.cell? ⟨w.heap.size + 1, 1, none⟩ = some (.bool x9.2) := cellS78_1 HI.out.1
      have hcase : (decide ((k9 : Int) < n_) = true ∧ x9.2 = false) ∨ rowsTI n_.toNat x3 = (L9, x9) ∧ (decide ((k9 : Int) < n_) = false ∨ decide ((k9 : Int) < n_) = true ∧ x9.2 = true) := by
        by_cases h1 : (k9 : Int) < n_
        · cases hb : x9.2 with
          | false => exact .inl ⟨decide_eq_true h1, rfl⟩
          | true =>
            refine .inr ⟨?_, .inr ⟨decide_eq_true h1, rfl⟩⟩
            rw [rowsTI_bad (n := k9) (by rw [HJ.out]; exact hb) (by omega)]
            exact HJ.out
        · refine .inr ⟨?_, .inl (decide_eq_false h1)⟩
          have : k9 = n_.toNat := by have := K.out; have := HNn_.out; omega
          rw [← this]
          exact HJ.out
      rcases hcase with ⟨t1, t2⟩ | ⟨hend, hcase⟩
      · have HLT := Aside0.mk (show k9 < n_.toNat by have := of_decide_eq_true t1; omega)
        have HBD := Aside0.mk t2
        rw [t2] at gb
        have hwk : wrap64 ((k9 : Int) + 1) = ((k9 + 1 : Nat) : Int) := by have := HNn_.out; have := HLT.out; unfold wrap64; omega
        go_upto_region 27 with (fail)
        clear t1 t2 gb
        obtain ⟨a_, xa, e_⟩ : ∃ v_ y_, fourI x9 = (v_, y_) := ⟨_, _, rfl⟩
        have EE0 := Aside0.mk e_
        have HXa_ := Aside0.mk (show xa.1.size ≤ 1000000 by have h := fourI_le x9; rw [e_] at h; exact Nat.le_trans h HX.out)
        clear e_
        go_upto_region 28 with (go_at_call 35; (with_reducible refine (four_at (w.heap.size + 1) x9 a_ xa EE0.out w _ HI.out HB.out).mono ?_); rintro y_ wa_ ⟨rfl, hi_, hb_, hk_⟩; have HO_n := Aside0.mk (kb_old hk_ HO.out HN8.out); have HZ_n := Aside0.mk (kb_old hk_ HZ.out HN4.out); have HI_n := Aside0.mk (hi_); have HB_n := Aside0.mk (hb_); have HOW_n := Aside0.mk (HOW.out.same fun k9 hk => hk_.2 k9 (HOW.out.own.lt k9 hk).2 (fun e => HRG.out k9 (HOW.out.mem k9 hk) e) (by simp)); clear HO HZ HI HB HOW; have HO := HO_n; have HZ := HZ_n; have HI := HI_n; have HB := HB_n; have HOW := HOW_n; clear HO_n HZ_n HI_n HB_n HOW_n; clear hi_ hb_ hk_)
        have HRL := Aside0.mk (show ∀ k9, Value.ownBlock (.slice A9 L9.length c9) = some k9 → k9 ≠ wa_.heap.size from fun k9 hk => Nat.ne_of_lt (HOW.out.own.lt k9 hk).2)
        have HR := Aside0.mk (heap_alloc_new wa_ (.cells #[.int .i64 a_, .int .i64 0, .int .i64 0] 66))
        have hb_ := (Below.refl wa_.heap.size wa_).alloc (Nat.le_refl _) (.cells #[.int .i64 a_, .int .i64 0, .int .i64 0] 66)
        have HNR := Aside0.mk (show wa_.heap.size ≠ w.heap.size + 1 from Nat.ne_of_gt HI.out.lt)
        have HOR := Aside0.mk (show o8 < wa_.heap.size from blk_lt HO.out)
        have HO_n := Aside0.mk (blk_below HO.out hb_)
        have HZ_n := Aside0.mk (blk_below HZ.out hb_)
        have HI_n := Aside0.mk (HI.out.below hb_)
        have HB_n := Aside0.mk (HB.out.trans (hb_.mono HB.out.size))
        have HOW_n := Aside0.mk (HOW.out.same fun k9 hk => hb_.block k9 (HOW.out.own.lt k9 hk).2)
        clear HO HZ HI HB HOW
        have HO := HO_n
        have HZ := HZ_n
        have HI := HI_n
        have HB := HB_n
        have HOW := HOW_n
        clear HO_n HZ_n HI_n HB_n HOW_n
        clear hb_
        generalize wa_.alloc (.cells #[.int .i64 a_, .int .i64 0, .int .i64 0] 66) = ua_ at *
        have HRO_ := Aside0.mk (show ∀ k9, Value.ownBlock (.slice A9 L9.length c9) = some k9 → k9 ≠ wa_.heap.size from fun k9 hk => HRL.out k9 hk)
        clear HRL
        generalize wa_.heap.size = ob at *
        have HRO := HRO_
        clear HRO_
        obtain ⟨b_, xb, e_⟩ : ∃ v_ y_, fourI xa = (v_, y_) := ⟨_, _, rfl⟩
        have EE1 := Aside0.mk e_
        have HXb_ := Aside0.mk (show xb.1.size ≤ 1000000 by have h := fourI_le xa; rw [e_] at h; exact Nat.le_trans h HXa_.out)
        clear e_
        go_upto_region 29 with (go_at_call 35; (with_reducible refine (four_at (w.heap.size + 1) xa b_ xb EE1.out w _ HI.out HB.out).mono ?_); rintro y_ wb_ ⟨rfl, hi_, hb_, hk_⟩; have HO_n := Aside0.mk (kb_old hk_ HO.out HN8.out); have HZ_n := Aside0.mk (kb_old hk_ HZ.out HN4.out); have HI_n := Aside0.mk (hi_); have HB_n := Aside0.mk (hb_); have HOW_n := Aside0.mk (HOW.out.same fun k9 hk => hk_.2 k9 (HOW.out.own.lt k9 hk).2 (fun e => HRG.out k9 (HOW.out.mem k9 hk) e) (by simp)); have HR_n := Aside0.mk (kb_old hk_ HR.out HNR.out); clear HO HZ HI HB HOW HR; have HO := HO_n; have HZ := HZ_n; have HI := HI_n; have HB := HB_n; have HOW := HOW_n; have HR := HR_n; clear HO_n HZ_n HI_n HB_n HOW_n HR_n; clear hi_ hb_ hk_; have y_ := blk_cell HR.out 1; have f_ := blk_frozen HR.out 1)
        have HO_n := Aside0.mk (keep_set HO.out (Nat.ne_of_lt HOR.out) 1 (.int .i64 b_))
        have HZ_n := Aside0.mk (keep_set HZ.out (show w.heap.size ≠ ob by have := HOR.out; have := H8.out; omega) 1 (.int .i64 b_))
        have HI_n := Aside0.mk (HI.out.far (p := ⟨ob, 1, none⟩) HNR.out.symm (.int .i64 b_))
        have HB_n := Aside0.mk (HB.out.setCell (p := ⟨ob, 1, none⟩) (show w.heap.size ≤ ob by have := HOR.out; have := H8.out; omega) (.int .i64 b_))
        have HOW_n := Aside0.mk (HOW.out.same fun k9 hk => Below.heap_setCell wb_ ⟨ob, 1, none⟩ (.int .i64 b_) k9 (HRO.out k9 hk))
        have HR_n := Aside0.mk (show (wb_.setCell ⟨ob, 1, none⟩ (.int .i64 b_)).heap[ob]? = some (.cells #[.int .i64 a_, .int .i64 b_, .int .i64 0] 66 (0, 0)) from set_blk HR.out 1 (.int .i64 b_))
        clear HO HZ HI HB HOW HR
        have HO := HO_n
        have HZ := HZ_n
        have HI := HI_n
        have HB := HB_n
        have HOW := HOW_n
        have HR := HR_n
        clear HO_n HZ_n HI_n HB_n HOW_n HR_n
        clear y_ f_
        generalize wb_.setCell ⟨ob, 1, none⟩ (.int .i64 b_) = ub_ at *
        obtain ⟨c_, xc, e_⟩ : ∃ v_ y_, fourI xb = (v_, y_) := ⟨_, _, rfl⟩
        have EE2 := Aside0.mk e_
        have HXc_ := Aside0.mk (show xc.1.size ≤ 1000000 by have h := fourI_le xb; rw [e_] at h; exact Nat.le_trans h HXb_.out)
        clear e_
        go_upto_region 30 with (go_at_call 35; (with_reducible refine (four_at (w.heap.size + 1) xb c_ xc EE2.out w _ HI.out HB.out).mono ?_); rintro y_ wc_ ⟨rfl, hi_, hb_, hk_⟩; have HO_n := Aside0.mk (kb_old hk_ HO.out HN8.out); have HZ_n := Aside0.mk (kb_old hk_ HZ.out HN4.out); have HI_n := Aside0.mk (hi_); have HB_n := Aside0.mk (hb_); have HOW_n := Aside0.mk (HOW.out.same fun k9 hk => hk_.2 k9 (HOW.out.own.lt k9 hk).2 (fun e => HRG.out k9 (HOW.out.mem k9 hk) e) (by simp)); have HR_n := Aside0.mk (kb_old hk_ HR.out HNR.out); clear HO HZ HI HB HOW HR; have HO := HO_n; have HZ := HZ_n; have HI := HI_n; have HB := HB_n; have HOW := HOW_n; have HR := HR_n; clear HO_n HZ_n HI_n HB_n HOW_n HR_n; clear hi_ hb_ hk_; have y_ := blk_cell HR.out 2; have f_ := blk_frozen HR.out 2)
        have HO_n := Aside0.mk (keep_set HO.out (Nat.ne_of_lt HOR.out) 2 (.int .i64 c_))
        have HZ_n := Aside0.mk (keep_set HZ.out (show w.heap.size ≠ ob by have := HOR.out; have := H8.out; omega) 2 (.int .i64 c_))
        have HI_n := Aside0.mk (HI.out.far (p := ⟨ob, 2, none⟩) HNR.out.symm (.int .i64 c_))
        have HB_n := Aside0.mk (HB.out.setCell (p := ⟨ob, 2, none⟩) (show w.heap.size ≤ ob by have := HOR.out; have := H8.out; omega) (.int .i64 c_))
        have HOW_n := Aside0.mk (HOW.out.same fun k9 hk => Below.heap_setCell wc_ ⟨ob, 2, none⟩ (.int .i64 c_) k9 (HRO.out k9 hk))
        have HR_n := Aside0.mk (show (wc_.setCell ⟨ob, 2, none⟩ (.int .i64 c_)).heap[ob]? = some (.cells #[.int .i64 a_, .int .i64 b_, .int .i64 c_] 66 (0, 0)) from set_blk HR.out 2 (.int .i64 c_))
        clear HO HZ HI HB HOW HR
        have HO := HO_n
        have HZ := HZ_n
        have HI := HI_n
        have HB := HB_n
        have HOW := HOW_n
        have HR := HR_n
        clear HO_n HZ_n HI_n HB_n HOW_n HR_n
        clear y_ f_
        generalize wc_.setCell ⟨ob, 2, none⟩ (.int .i64 c_) = uc_ at *
        have q9_ : uc_.cell? ⟨o8, 9, none⟩ = some (.slice A9 L9.length c9) := blk_cell HO.out 9
        have r0_ : uc_.cell? ⟨ob, 0, none⟩ = some (.int .i64 a_) := blk_cell HR.out 0
        have r1_ : uc_.cell? ⟨ob, 1, none⟩ = some (.int .i64 b_) := blk_cell HR.out 1
        have r2_ : uc_.cell? ⟨ob, 2, none⟩ = some (.int .i64 c_) := blk_cell HR.out 2
        have HNB := Aside0.mk (heap_alloc_new uc_ (.cells #[.int .i64 a_, .int .i64 b_, .int .i64 c_] 66))
        have hb_ := (Below.refl uc_.heap.size uc_).alloc (Nat.le_refl _) (.cells #[.int .i64 a_, .int .i64 b_, .int .i64 c_] 66)
        have HO_n := Aside0.mk (blk_below HO.out hb_)
        have HZ_n := Aside0.mk (blk_below HZ.out hb_)
        have HI_n := Aside0.mk (HI.out.below hb_)
        have HB_n := Aside0.mk (HB.out.trans (hb_.mono HB.out.size))
        have HOW_n := Aside0.mk (HOW.out.same fun k9 hk => hb_.block k9 (HOW.out.own.lt k9 hk).2)
        clear HO HZ HI HB HOW
        have HO := HO_n
        have HZ := HZ_n
        have HI := HI_n
        have HB := HB_n
        have HOW := HOW_n
        clear HO_n HZ_n HI_n HB_n HOW_n
        clear hb_
        obtain ⟨u2, W4, hr_, how_, hgr_, g2, c2, e2_⟩ := push_rowT L9 (⟨a_, b_, c_⟩ : S66) HOW.out (by have := HLN.out; have := HNn_.out; have := HLT.out; omega) HNB.out 22
        subst e2_
        have hne_ := ow_ne HOW.out HO.out (by decide)
        have hsz_ : o8 ≤ (uc_.alloc (.cells #[.int .i64 a_, .int .i64 b_, .int .i64 c_] 66)).heap.size := Nat.le_of_lt (blk_lt HO.out)
        have HOW2 := Aside0.mk (how_.mono (S2 := From o8) (fun k9 _ hk => hk.elim id (fun e => by rw [e]; exact hsz_)))
        have HZ_n := Aside0.mk (grown_blk hgr_ HZ.out (fun e => HRZ.out _ (HOW.out.mem _ e.symm) rfl))
        have HI_n := Aside0.mk (show IsS78 w W4 (w.heap.size + 1) xc.1 xc.2 from ⟨grown_blk hgr_ HI.out.1 (fun e => HRG.out _ (HOW.out.mem _ e.symm) rfl), HI.out.2⟩)
        have HB_n := Aside0.mk (HB.out.grown hgr_ HB.out.size (fun k9 hk => Nat.le_trans H8.out (HOW.out.mem k9 hk)))
        have HO_n := Aside0.mk (grown_blk hgr_ HO.out (fun e => hne_ _ e.symm rfl))
        clear HZ HI HB HO
        have HZ := HZ_n
        have HI := HI_n
        have HB := HB_n
        have HO := HO_n
        clear HZ_n HI_n HB_n HO_n
        have HRN := Aside0.mk hr_
        have k1_ : W4.cell? ⟨o8, 9, none⟩ = some (.slice A9 L9.length c9) := blk_cell HO.out 9
        have k2_ : W4.frozen? ⟨o8, 9, none⟩ = false := blk_frozen HO.out 9
        clear hr_ how_ hgr_ hne_ hsz_ HOW HNB
        have HZ_n := Aside0.mk (keep_set HZ.out HN48.out 9 (.slice (some ⟨g2, 0, none⟩) (L9.length + 1) c2))
        have HI_n := Aside0.mk (HI.out.far (p := ⟨o8, 9, none⟩) HN8.out.symm (.slice (some ⟨g2, 0, none⟩) (L9.length + 1) c2))
        have HB_n := Aside0.mk (HB.out.setCell (p := ⟨o8, 9, none⟩) H8.out (.slice (some ⟨g2, 0, none⟩) (L9.length + 1) c2))
        have HOW2_n := Aside0.mk (Wr.Ow.far HOW2.out HO.out (by decide) 9 (.slice (some ⟨g2, 0, none⟩) (L9.length + 1) c2))
        have HO_n := Aside0.mk (show (W4.setCell ⟨o8, 9, none⟩ (.slice (some ⟨g2, 0, none⟩) (L9.length + 1) c2)).heap[o8]? = some (.cells #[.int .i64 6, .int .i64 0, .int .i64 0, .int .i64 0, .int .i64 0, .int .i64 0, .int .i64 bg_, .string ⟨#[]⟩, .string ⟨#[]⟩, .slice (some ⟨g2, 0, none⟩) (L9.length + 1) c2, .slice none 0 0] 25 (0, 0)) from set_blk HO.out 9 (.slice (some ⟨g2, 0, none⟩) (L9.length + 1) c2))
        clear HZ HI HB HOW2 HO
        have HZ := HZ_n
        have HI := HI_n
        have HB := HB_n
        have HOW2 := HOW2_n
        have HO := HO_n
        clear HZ_n HI_n HB_n HOW2_n HO_n
        go_wp2_with ((with_reducible refine gate_builtin (b := .append) (xs := #[.tmp 102, .tmp 104]) rfl ?_); at_builtin; refine ev_append (.tmp 102) (.tmp 104) 22 rfl rfl _ _ rfl rfl HRN.out ?_)
        (try simp only [hwk])
        refine ⟨⟨k9 + 1, L9 ++ [⟨a_, b_, c_⟩], xc, _, rfl, ⟨?_⟩, ⟨?_⟩, ⟨?_⟩, HXc_, HI, HB, HZ, HO, HOW2⟩, ?_⟩
        · have := HLT.out; have := HNn_.out; omega
        · simp only [rowsTI, HJ.out, HBD.out]; rw [if_neg (by decide)]; unfold rowTI; simp only [EE0.out, EE1.out, EE2.out]
        · rw [List.length_append]; have := HLN.out; show L9.length + 1 ≤ k9 + 1; omega
        · have := HLT.out
          show n_.toNat - (intOf (.int .i64 ((k9 + 1 : Nat) : Int))).toNat < n_.toNat - (intOf (.int .i64 (k9 : Int))).toNat
          simp only [intOf]; omega
      · have HJN := Aside0.mk hend
        clear hend HJ K
        have HLN2 := Aside0.mk (show L9.length ≤ 255 by have h := HLN.out; have h2 := HJN.out; have h3 := rowsTI_len n_.toNat x3; rw [h2] at h3; have := HNn_.out; simp only at h3; omega)
        clear HLN
        rcases hcase with t1 | ⟨t1, t2⟩
        rotate_left
        · rw [t2] at gb
          go_wp2
          go_meet
          exact ⟨_, L9, x9, A9, c9, rfl, HJN, HLN2, HX, HI, HB, HZ, HO, HOW⟩
        · go_wp2
          go_meet
          exact ⟨_, L9, x9, A9, c9, rfl, HJN, HLN2, HX, HI, HB, HZ, HO, HOW⟩
  case rest =>
    clear HI HB HZ HO HXs
    obtain ⟨k9, L9, x9, A9, c9, rfl, HJN, HLN2, HX, HI, HB, HZ, HO, HOW⟩ := hcut
    have HO9 := HOW; have HJ9 := HJN; have HL255 := HLN2; have HX3 := HX
    clear HOW HJN HLN2 HX
    obtain ⟨m_, x4, e_⟩ : ∃ v_ y_, smallI x9 = (v_, y_) := ⟨_, _, rfl⟩
    have E4 := Aside0.mk e_
    have HX4 := Aside0.mk (show x4.1.size ≤ 1000000 by have h := smallI_le x9; rw [e_] at h; exact Nat.le_trans h HX3.out)
    have HNm_ := Aside0.mk (show 0 ≤ m_ ∧ m_ ≤ 255 by have h := smallI_range x9; rw [e_] at h; exact h)
    clear e_
    go_upto_region 33 with (go_at_call 34; (with_reducible refine (small_at (w.heap.size + 1) x9 m_ x4 E4.out w _ HI.out HB.out).mono ?_); rintro y_ w4 ⟨rfl, hi_, hb_, hk_⟩; have HO_n := Aside0.mk (kb_old hk_ HO.out HN8.out); have HZ_n := Aside0.mk (kb_old hk_ HZ.out HN4.out); have HI_n := Aside0.mk (hi_); have HB_n := Aside0.mk (hb_); have HO9_n := Aside0.mk (HO9.out.same fun k hk => hk_.2 k (HO9.out.own.lt k hk).2 (fun e => HRG.out k (HO9.out.mem k hk) e) (by simp)); clear HO HZ HI HB HO9; have HO := HO_n; have HZ := HZ_n; have HI := HI_n; have HB := HB_n; have HO9 := HO9_n; clear HO_n HZ_n HI_n HB_n HO9_n; clear hi_ hb_ hk_)
    (try clear k0)
    have k0 : w4.cell? ⟨o8, 0, none⟩ = some (.int .i64 6) := blk_cell HO.out 0
    clear k0
    have HXs := HX4
    go_loopw [13] (fun v wr => ∃ (k : Nat) (L : List S68) (x : St) (u : Value), v = .int .i64 k ∧ Aside0 ((k : Int) ≤ m_) ∧ Aside0 (rowsQI k x4 = (L, x)) ∧ Aside0 (L.length ≤ k) ∧ Aside0 (x.1.size ≤ 1000000) ∧ Aside0 (IsS78 w wr (w.heap.size + 1) x.1 x.2) ∧ Aside0 (Below w.heap.size w wr) ∧ Aside0 (wr.heap[w.heap.size]? = some (.cells #[.int .i64 0, .int .i64 0, .int .i64 0, .int .i64 0, .int .i64 0, .int .i64 0, .int .i64 0, .string ⟨#[]⟩, .string ⟨#[]⟩, .slice none 0 0, .slice none 0 0] 25 (0, 0))) ∧ Aside0 (wr.heap[o8]? = some (.cells #[.int .i64 6, .int .i64 0, .int .i64 0, .int .i64 0, .int .i64 0, .int .i64 0, .int .i64 bg_, .string ⟨#[]⟩, .string ⟨#[]⟩, .slice A9 L9.length c9, u] 25 (0, 0))) ∧ Aside0 (Ow wr (From o8) 68 2 u L.length (flatQ L)) ∧ Aside0 (Ow wr (From o8) 66 3 (.slice A9 L9.length c9) L9.length (flatT L9))) (fun v _ => m_.toNat - (intOf v).toNat)
    case atStart => exact ⟨0, [], x4, .slice none 0 0, rfl, ⟨HNm_.out.1⟩, ⟨rfl⟩, ⟨Nat.zero_le _⟩, HXs, HI, HB, HZ, HO, ⟨Ow.nil _ _ _ _⟩, HO9⟩
    case round =>
      clear HI HB HZ HO HXs HO9
      obtain ⟨k, L, x, u, rfl, K, HJ, HLN, HX, HI, HB, HZ, HO, HOW, HO9⟩ := hrel
      obtain ⟨A_, d_, e_, -⟩ := HOW.out.shape
      subst e_
      have gb : wr.cell? ⟨w.heap.size + 1, 1, none⟩ = some (.bool x.2) := cellS78_1 HI.out.1
      have hcase : (decide ((k : Int) < m_) = true ∧ x.2 = false) ∨ rowsQI m_.toNat x4 = (L, x) ∧ (decide ((k : Int) < m_) = false ∨ decide ((k : Int) < m_) = true ∧ x.2 = true) := by
        by_cases h1 : (k : Int) < m_
        · cases hb : x.2 with
          | false => exact .inl ⟨decide_eq_true h1, rfl⟩
          | true =>
            refine .inr ⟨?_, .inr ⟨decide_eq_true h1, rfl⟩⟩
            rw [rowsQI_bad (n := k) (by rw [HJ.out]; exact hb) (by omega)]
            exact HJ.out
        · refine .inr ⟨?_, .inl (decide_eq_false h1)⟩
          have : k = m_.toNat := by have := K.out; have := HNm_.out; omega
          rw [← this]
          exact HJ.out
      rcases hcase with ⟨t1, t2⟩ | ⟨hend, hcase⟩
      · have HLT := Aside0.mk (show k < m_.toNat by have := of_decide_eq_true t1; omega)
        have HBD := Aside0.mk t2
        rw [t2] at gb
        have hwk : wrap64 ((k : Int) + 1) = ((k + 1 : Nat) : Int) := by have := HNm_.out; have := HLT.out; unfold wrap64; omega
        go_upto_region 35 with (fail)
        clear t1 t2 gb
        obtain ⟨a_, xa, e_⟩ : ∃ v_ y_, smallI x = (v_, y_) := ⟨_, _, rfl⟩
        have EE0 := Aside0.mk e_
        have HXa_ := Aside0.mk (show xa.1.size ≤ 1000000 by have h := smallI_le x; rw [e_] at h; exact Nat.le_trans h HX.out)
        clear e_
        go_upto_region 36 with (go_at_call 34; (with_reducible refine (small_at (w.heap.size + 1) x a_ xa EE0.out w _ HI.out HB.out).mono ?_); rintro y_ wa_ ⟨rfl, hi_, hb_, hk_⟩; have HO_n := Aside0.mk (kb_old hk_ HO.out HN8.out); have HZ_n := Aside0.mk (kb_old hk_ HZ.out HN4.out); have HI_n := Aside0.mk (hi_); have HB_n := Aside0.mk (hb_); have HOW_n := Aside0.mk (HOW.out.same fun k hk => hk_.2 k (HOW.out.own.lt k hk).2 (fun e => HRG.out k (HOW.out.mem k hk) e) (by simp)); have HO9_n := Aside0.mk (HO9.out.same fun k hk => hk_.2 k (HO9.out.own.lt k hk).2 (fun e => HRG.out k (HO9.out.mem k hk) e) (by simp)); clear HO HZ HI HB HOW HO9; have HO := HO_n; have HZ := HZ_n; have HI := HI_n; have HB := HB_n; have HOW := HOW_n; have HO9 := HO9_n; clear HO_n HZ_n HI_n HB_n HOW_n HO9_n; clear hi_ hb_ hk_)
        have HRL := Aside0.mk (show ∀ k, Value.ownBlock (.slice A_ L.length d_) = some k → k ≠ wa_.heap.size from fun k hk => Nat.ne_of_lt (HOW.out.own.lt k hk).2)
        have HRL9 := Aside0.mk (show ∀ k, Value.ownBlock (.slice A9 L9.length c9) = some k → k ≠ wa_.heap.size from fun k hk => Nat.ne_of_lt (HO9.out.own.lt k hk).2)
        have HR := Aside0.mk (heap_alloc_new wa_ (.cells #[.int .i64 a_, .int .i64 0] 68))
        have hb_ := (Below.refl wa_.heap.size wa_).alloc (Nat.le_refl _) (.cells #[.int .i64 a_, .int .i64 0] 68)
        have HNR := Aside0.mk (show wa_.heap.size ≠ w.heap.size + 1 from Nat.ne_of_gt HI.out.lt)
        have HOR := Aside0.mk (show o8 < wa_.heap.size from blk_lt HO.out)
        have HO_n := Aside0.mk (blk_below HO.out hb_)
        have HZ_n := Aside0.mk (blk_below HZ.out hb_)
        have HI_n := Aside0.mk (HI.out.below hb_)
        have HB_n := Aside0.mk (HB.out.trans (hb_.mono HB.out.size))
        have HOW_n := Aside0.mk (HOW.out.same fun k hk => hb_.block k (HOW.out.own.lt k hk).2)
        have HO9_n := Aside0.mk (HO9.out.same fun k hk => hb_.block k (HO9.out.own.lt k hk).2)
        clear HO HZ HI HB HOW HO9
        have HO := HO_n
        have HZ := HZ_n
        have HI := HI_n
        have HB := HB_n
        have HOW := HOW_n
        have HO9 := HO9_n
        clear HO_n HZ_n HI_n HB_n HOW_n HO9_n
        clear hb_
        generalize wa_.alloc (.cells #[.int .i64 a_, .int .i64 0] 68) = ua_ at *
        have HRO_ := Aside0.mk (show ∀ k, Value.ownBlock (.slice A_ L.length d_) = some k → k ≠ wa_.heap.size from fun k hk => HRL.out k hk)
        clear HRL
        have HRO9_ := Aside0.mk (show ∀ k, Value.ownBlock (.slice A9 L9.length c9) = some k → k ≠ wa_.heap.size from fun k hk => HRL9.out k hk)
        clear HRL9
        generalize wa_.heap.size = ob at *
        have HRO := HRO_
        clear HRO_
        have HRO9 := HRO9_
        clear HRO9_
        obtain ⟨b_, xb, e_⟩ : ∃ v_ y_, fourI xa = (v_, y_) := ⟨_, _, rfl⟩
        have EE1 := Aside0.mk e_
        have HXb_ := Aside0.mk (show xb.1.size ≤ 1000000 by have h := fourI_le xa; rw [e_] at h; exact Nat.le_trans h HXa_.out)
        clear e_
        go_upto_region 37 with (go_at_call 35; (with_reducible refine (four_at (w.heap.size + 1) xa b_ xb EE1.out w _ HI.out HB.out).mono ?_); rintro y_ wb_ ⟨rfl, hi_, hb_, hk_⟩; have HO_n := Aside0.mk (kb_old hk_ HO.out HN8.out); have HZ_n := Aside0.mk (kb_old hk_ HZ.out HN4.out); have HI_n := Aside0.mk (hi_); have HB_n := Aside0.mk (hb_); have HOW_n := Aside0.mk (HOW.out.same fun k hk => hk_.2 k (HOW.out.own.lt k hk).2 (fun e => HRG.out k (HOW.out.mem k hk) e) (by simp)); have HO9_n := Aside0.mk (HO9.out.same fun k hk => hk_.2 k (HO9.out.own.lt k hk).2 (fun e => HRG.out k (HO9.out.mem k hk) e) (by simp)); have HR_n := Aside0.mk (kb_old hk_ HR.out HNR.out); clear HO HZ HI HB HOW HO9 HR; have HO := HO_n; have HZ := HZ_n; have HI := HI_n; have HB := HB_n; have HOW := HOW_n; have HO9 := HO9_n; have HR := HR_n; clear HO_n HZ_n HI_n HB_n HOW_n HO9_n HR_n; clear hi_ hb_ hk_; have y_ := blk_cell HR.out 1; have f_ := blk_frozen HR.out 1)
        have HO_n := Aside0.mk (keep_set HO.out (Nat.ne_of_lt HOR.out) 1 (.int .i64 b_))
        have HZ_n := Aside0.mk (keep_set HZ.out (show w.heap.size ≠ ob by have := HOR.out; have := H8.out; omega) 1 (.int .i64 b_))
        have HI_n := Aside0.mk (HI.out.far (p := ⟨ob, 1, none⟩) HNR.out.symm (.int .i64 b_))
        have HB_n := Aside0.mk (HB.out.setCell (p := ⟨ob, 1, none⟩) (show w.heap.size ≤ ob by have := HOR.out; have := H8.out; omega) (.int .i64 b_))
        have HOW_n := Aside0.mk (HOW.out.same fun k hk => Below.heap_setCell wb_ ⟨ob, 1, none⟩ (.int .i64 b_) k (HRO.out k hk))
        have HO9_n := Aside0.mk (HO9.out.same fun k hk => Below.heap_setCell wb_ ⟨ob, 1, none⟩ (.int .i64 b_) k (HRO9.out k hk))
        have HR_n := Aside0.mk (show (wb_.setCell ⟨ob, 1, none⟩ (.int .i64 b_)).heap[ob]? = some (.cells #[.int .i64 a_, .int .i64 b_] 68 (0, 0)) from set_blk HR.out 1 (.int .i64 b_))
        clear HO HZ HI HB HOW HO9 HR
        have HO := HO_n
        have HZ := HZ_n
        have HI := HI_n
        have HB := HB_n
        have HOW := HOW_n
        have HO9 := HO9_n
        have HR := HR_n
        clear HO_n HZ_n HI_n HB_n HOW_n HO9_n HR_n
        clear y_ f_
        generalize wb_.setCell ⟨ob, 1, none⟩ (.int .i64 b_) = ub_ at *
        have q9_ : ub_.cell? ⟨o8, 10, none⟩ = some (.slice A_ L.length d_) := blk_cell HO.out 10
        have r0_ : ub_.cell? ⟨ob, 0, none⟩ = some (.int .i64 a_) := blk_cell HR.out 0
        have r1_ : ub_.cell? ⟨ob, 1, none⟩ = some (.int .i64 b_) := blk_cell HR.out 1
        have HNB := Aside0.mk (heap_alloc_new ub_ (.cells #[.int .i64 a_, .int .i64 b_] 68))
        have hb_ := (Below.refl ub_.heap.size ub_).alloc (Nat.le_refl _) (.cells #[.int .i64 a_, .int .i64 b_] 68)
        have HO_n := Aside0.mk (blk_below HO.out hb_)
        have HZ_n := Aside0.mk (blk_below HZ.out hb_)
        have HI_n := Aside0.mk (HI.out.below hb_)
        have HB_n := Aside0.mk (HB.out.trans (hb_.mono HB.out.size))
        have HOW_n := Aside0.mk (HOW.out.same fun k hk => hb_.block k (HOW.out.own.lt k hk).2)
        have HO9_n := Aside0.mk (HO9.out.same fun k hk => hb_.block k (HO9.out.own.lt k hk).2)
        clear HO HZ HI HB HOW HO9
        have HO := HO_n
        have HZ := HZ_n
        have HI := HI_n
        have HB := HB_n
        have HOW := HOW_n
        have HO9 := HO9_n
        clear HO_n HZ_n HI_n HB_n HOW_n HO9_n
        clear hb_
        obtain ⟨u2, W4, hr_, how_, hgr_, g2, c2, e2_⟩ := push_rowQ L (⟨a_, b_⟩ : S68) HOW.out (by have := HLN.out; have := HNm_.out; have := HLT.out; omega) HNB.out 23
        subst e2_
        have hne_ := ow_ne HOW.out HO.out (by decide)
        have hsz_ : o8 ≤ (ub_.alloc (.cells #[.int .i64 a_, .int .i64 b_] 68)).heap.size := Nat.le_of_lt (blk_lt HO.out)
        have HOW2 := Aside0.mk (how_.mono (S2 := From o8) (fun k _ hk => hk.elim id (fun e => by rw [e]; exact hsz_)))
        have HZ_n := Aside0.mk (grown_blk hgr_ HZ.out (fun e => HRZ.out _ (HOW.out.mem _ e.symm) rfl))
        have HI_n := Aside0.mk (show IsS78 w W4 (w.heap.size + 1) xb.1 xb.2 from ⟨grown_blk hgr_ HI.out.1 (fun e => HRG.out _ (HOW.out.mem _ e.symm) rfl), HI.out.2⟩)
        have HB_n := Aside0.mk (HB.out.grown hgr_ HB.out.size (fun k hk => Nat.le_trans H8.out (HOW.out.mem k hk)))
        have HO9_n := Aside0.mk (HO9.out.same fun k hk => hgr_.block k (HO9.out.own.lt k hk).2 (fun e => ow_ne2 HO9.out HOW.out (by decide) k hk e.symm))
        have HO_n := Aside0.mk (grown_blk hgr_ HO.out (fun e => hne_ _ e.symm rfl))
        clear HZ HI HB HO9 HO
        have HZ := HZ_n
        have HI := HI_n
        have HB := HB_n
        have HO9 := HO9_n
        have HO := HO_n
        clear HZ_n HI_n HB_n HO9_n HO_n
        have HRN := Aside0.mk hr_
        have k1_ : W4.cell? ⟨o8, 10, none⟩ = some (.slice A_ L.length d_) := blk_cell HO.out 10
        have k2_ : W4.frozen? ⟨o8, 10, none⟩ = false := blk_frozen HO.out 10
        clear hr_ how_ hgr_ hne_ hsz_ HOW HNB
        have HZ_n := Aside0.mk (keep_set HZ.out HN48.out 10 (.slice (some ⟨g2, 0, none⟩) (L.length + 1) c2))
        have HI_n := Aside0.mk (HI.out.far (p := ⟨o8, 10, none⟩) HN8.out.symm (.slice (some ⟨g2, 0, none⟩) (L.length + 1) c2))
        have HB_n := Aside0.mk (HB.out.setCell (p := ⟨o8, 10, none⟩) H8.out (.slice (some ⟨g2, 0, none⟩) (L.length + 1) c2))
        have HOW2_n := Aside0.mk (Wr.Ow.far HOW2.out HO.out (by decide) 10 (.slice (some ⟨g2, 0, none⟩) (L.length + 1) c2))
        have HO9_n := Aside0.mk (Wr.Ow.far HO9.out HO.out (by decide) 10 (.slice (some ⟨g2, 0, none⟩) (L.length + 1) c2))
        have HO_n := Aside0.mk (show (W4.setCell ⟨o8, 10, none⟩ (.slice (some ⟨g2, 0, none⟩) (L.length + 1) c2)).heap[o8]? = some (.cells #[.int .i64 6, .int .i64 0, .int .i64 0, .int .i64 0, .int .i64 0, .int .i64 0, .int .i64 bg_, .string ⟨#[]⟩, .string ⟨#[]⟩, .slice A9 L9.length c9, .slice (some ⟨g2, 0, none⟩) (L.length + 1) c2] 25 (0, 0)) from set_blk HO.out 10 (.slice (some ⟨g2, 0, none⟩) (L.length + 1) c2))
        clear HZ HI HB HOW2 HO9 HO
        have HZ := HZ_n
        have HI := HI_n
        have HB := HB_n
        have HOW2 := HOW2_n
        have HO9 := HO9_n
        have HO := HO_n
        clear HZ_n HI_n HB_n HOW2_n HO9_n HO_n
        go_wp2_with ((with_reducible refine gate_builtin (b := .append) (xs := #[.tmp 128, .tmp 130]) rfl ?_); at_builtin; refine ev_append (.tmp 128) (.tmp 130) 23 rfl rfl _ _ rfl rfl HRN.out ?_)
        (try simp only [hwk])
        refine ⟨⟨k + 1, L ++ [⟨a_, b_⟩], xb, _, rfl, ⟨?_⟩, ⟨?_⟩, ⟨?_⟩, HXb_, HI, HB, HZ, HO, HOW2, HO9⟩, ?_⟩
        · have := HLT.out; have := HNm_.out; omega
        · simp only [rowsQI, HJ.out, HBD.out]; rw [if_neg (by decide)]; unfold rowQI; simp only [EE0.out, EE1.out]
        · rw [List.length_append]; have := HLN.out; show L.length + 1 ≤ k + 1; omega
        · have := HLT.out
          show m_.toNat - (intOf (.int .i64 ((k + 1 : Nat) : Int))).toNat < m_.toNat - (intOf (.int .i64 (k : Int))).toNat
          simp only [intOf]; omega
      · have HJN := Aside0.mk hend
        clear hend HJ K
        have HLN2 := Aside0.mk (show L.length ≤ 255 by have h := HLN.out; have h2 := HJN.out; have h3 := rowsQI_len m_.toNat x4; rw [h2] at h3; have := HNm_.out; simp only at h3; omega)
        clear HLN
        rcases hcase with t1 | ⟨t1, t2⟩
        rotate_left
        rw [t2] at gb
        all_goals
          have HX99 := HX
          go_upto_region 38 with (fail)
          have k0 := trivial
          clear gb
          clear k0
          obtain ⟨r, hr⟩ : ∃ r : S25, r = ⟨6, 0, 0, 0, 0, 0, bg_, ⟨#[]⟩, ⟨#[]⟩, L9, L⟩ := ⟨_, rfl⟩
          have HRC := Aside0.mk (show recI (s.extract n s.size, false) = (r, x) by rw [hr, HREC.out]; unfold recI6; simp only [E2.out, E3.out, HJ9.out, E4.out, HJN.out])
          have R9 := Aside0.mk (show Kd.R k66 66 wr w.heap.size (fun _ => True) (.slice A9 r.f9.length c9) r.f9 by rw [hr]; exact ow_RT (S := From o8) HO9.out (fun k hk => Nat.le_trans H8.out hk))
          have R10 := Aside0.mk (show Kd.R k68 68 wr w.heap.size (fun _ => True) (.slice A_ r.f10.length d_) r.f10 by rw [hr]; exact ow_RQ (S := From o8) HOW.out (fun k hk => Nat.le_trans H8.out hk))
          have HL9 := Aside0.mk (show r.f9.length ≤ 1000000 by rw [hr]; have := HL255.out; show L9.length ≤ 1000000; omega)
          have HL10 := Aside0.mk (show r.f10.length ≤ 1000000 by rw [hr]; have := HLN2.out; show L.length ≤ 1000000; omega)
          have HOr := Aside0.mk (show wr.heap[o8]? = some (.cells #[.int .i64 r.f0, .int .i64 r.f1, .int .i64 r.f2, .int .i64 r.f3, .int .i64 r.f4, .int .i64 r.f5, .int .i64 r.f6, .string r.f7, .string r.f8, .slice A9 r.f9.length c9, .slice A_ r.f10.length d_] 25 (0, 0)) by rw [hr]; exact HO.out)
          clear HO hr
          obtain ⟨q0, q1, q2, q3, q4, q5, q6, q7, q8, q9, q10⟩ := cells11 wr o8 HOr.out
          obtain ⟨z0, f0, z1, f1, z2, f2, z3, f3, z4, f4, z5, f5, z6, f6, z7, f7, z8, f8, z9, f9, z10, f10⟩ := cellsF11 wr (w.heap.size) HZ.out
          cases hbad : x.2 with
          | true =>
            have gb : wr.cell? ⟨w.heap.size + 1, 1, none⟩ = some (.bool true) := by have := cellS78_1 HI.out.1; rw [hbad] at this; exact this
            have HRF := Aside0.mk (show rreadF s (n : Int) = (Rp.zR, 0, 3) by rw [HRF0.out, HRC.out]; rw [if_pos (.inl hbad)])
            clear hbad
            go_wp2
            refine bodyPost_ret (v := .tuple #[.agg #[.int .i64 0, .int .i64 0, .int .i64 0, .int .i64 0, .int .i64 0, .int .i64 0, .int .i64 0, .string ⟨#[]⟩, .string ⟨#[]⟩, .slice none 0 0, .slice none 0 0], .int .i64 0, .int .i64 3]) (by simp [results, Try.results19, go_sem, z0, z1, z2, z3, z4, z5, z6, z7, z8, z9, z10]) rfl ?_
            show AfterRR s _ w _ _
            unfold AfterRR
            rw [HRF.out]
            refine ⟨_, _, rfl, Kd.R_nil _ _ _ _ _, Kd.R_nil _ _ _ _ _, ?_⟩
            repeat (first | (with_reducible refine below_at ?_ _ _) | (with_reducible exact HB.out))
          | false =>
          have gb : wr.cell? ⟨w.heap.size + 1, 1, none⟩ = some (.bool false) := by have := cellS78_1 HI.out.1; rw [hbad] at this; exact this
          have HBD := Aside0.mk hbad
          clear hbad
          obtain ⟨Ax_, cx_, e_, l9_, g9_⟩ := Kd.R_reads R9.out
          injection e_ with ea_ _ ec_
          obtain ⟨Bx_, dx_, e2_, l10_, g10_⟩ := Kd.R_reads R10.out
          injection e2_ with eb_ _ ed_
          rw [← ea_] at g9_
          rw [← ec_] at l9_
          rw [← eb_] at g10_
          rw [← ed_] at l10_
          have C9 := Aside0.mk g9_; have L9_ := Aside0.mk l9_; have C10 := Aside0.mk g10_; have L10_ := Aside0.mk l10_
          clear ea_ ec_ eb_ ed_ l9_ g9_ l10_ g10_
          cases hmb : mayB r with
          | false =>
            have HMB := Aside0.mk hmb
            have HRF := Aside0.mk (show rreadF s (n : Int) = (Rp.zR, 0, 3) by rw [HRF0.out, HRC.out]; rw [if_pos (.inr hmb)])
            clear hmb
            go_wp2_with (go_at_call 14; (with_reducible refine (may_calls r A9 c9 A_ d_ _ C9.out L9_.out C10.out L10_.out HL9.out HL10.out).mono ?_); rintro y_ v9_ ⟨rfl, hb_⟩; rw [HMB.out]; have HI_n := Aside0.mk (HI.out.below hb_); have HZ_n := Aside0.mk (blk_below HZ.out hb_); have HOr_n := Aside0.mk (blk_below HOr.out hb_); have R9_n := Aside0.mk (Kd.R_below R9.out hb_); have R10_n := Aside0.mk (Kd.R_below R10.out hb_); have HB_n := Aside0.mk (HB.out.trans (hb_.mono HB.out.size)); clear HI HZ HOr R9 R10 HB; have HI := HI_n; have HZ := HZ_n; have HOr := HOr_n; have R9 := R9_n; have R10 := R10_n; have HB := HB_n; clear HI_n HZ_n HOr_n R9_n R10_n HB_n; clear hb_ q0 z0 f0 q1 z1 f1 q2 z2 f2 q3 z3 f3 q4 z4 f4 q5 z5 f5 q6 z6 f6 q7 z7 f7 q8 z8 f8 q9 z9 f9 q10 z10 f10; obtain ⟨z0, f0, z1, f1, z2, f2, z3, f3, z4, f4, z5, f5, z6, f6, z7, f7, z8, f8, z9, f9, z10, f10⟩ := cellsF11 v9_ (w.heap.size) HZ.out)
            refine bodyPost_ret (v := .tuple #[.agg #[.int .i64 0, .int .i64 0, .int .i64 0, .int .i64 0, .int .i64 0, .int .i64 0, .int .i64 0, .string ⟨#[]⟩, .string ⟨#[]⟩, .slice none 0 0, .slice none 0 0], .int .i64 0, .int .i64 3]) (by simp [results, Try.results19, go_sem, z0, z1, z2, z3, z4, z5, z6, z7, z8, z9, z10]) rfl ?_
            show AfterRR s _ w _ _
            unfold AfterRR
            rw [HRF.out]
            refine ⟨_, _, rfl, Kd.R_nil _ _ _ _ _, Kd.R_nil _ _ _ _ _, ?_⟩
            repeat (first | (with_reducible refine below_at ?_ _ _) | (with_reducible exact HB.out))
          | true =>
          have HMB := Aside0.mk hmb
          have HRF := Aside0.mk (show rreadF s (n : Int) = (r, (s.size : Int) - (x.1.size : Int), 0) by rw [HRF0.out, HRC.out]; rw [if_neg (by rw [HBD.out, hmb]; simp)])
          clear hmb
          go_upto_region 40 with (go_at_call 14; (with_reducible refine (may_calls r A9 c9 A_ d_ _ C9.out L9_.out C10.out L10_.out HL9.out HL10.out).mono ?_); rintro y_ v9_ ⟨rfl, hb_⟩; rw [HMB.out]; have HI_n := Aside0.mk (HI.out.below hb_); have HZ_n := Aside0.mk (blk_below HZ.out hb_); have HOr_n := Aside0.mk (blk_below HOr.out hb_); have R9_n := Aside0.mk (Kd.R_below R9.out hb_); have R10_n := Aside0.mk (Kd.R_below R10.out hb_); have HB_n := Aside0.mk (HB.out.trans (hb_.mono HB.out.size)); clear HI HZ HOr R9 R10 HB; have HI := HI_n; have HZ := HZ_n; have HOr := HOr_n; have R9 := R9_n; have R10 := R10_n; have HB := HB_n; clear HI_n HZ_n HOr_n R9_n R10_n HB_n; clear hb_ q0 z0 f0 q1 z1 f1 q2 z2 f2 q3 z3 f3 q4 z4 f4 q5 z5 f5 q6 z6 f6 q7 z7 f7 q8 z8 f8 q9 z9 f9 q10 z10 f10; obtain ⟨z0, f0, z1, f1, z2, f2, z3, f3, z4, f4, z5, f5, z6, f6, z7, f7, z8, f8, z9, f9, z10, f10⟩ := cellsF11 v9_ (w.heap.size) HZ.out)
          have hw1 : wrap64 ((s.size : Int) - (x.1.size : Int)) = (s.size : Int) - (x.1.size : Int) := by have := HS.out; have := HX99.out; unfold wrap64; omega
          have hw2 : IntKind.i64.wrap ((s.size : Int) - (x.1.size : Int)) = (s.size : Int) - (x.1.size : Int) := IntWalk.i64_in _ (by have := HS.out; have := HX99.out; omega)
          obtain ⟨q0, q1, q2, q3, q4, q5, q6, q7, q8, q9, q10⟩ := cells11 v9_.drew o8 HOr.out
          have qs : v9_.drew.cell? ⟨w.heap.size + 1, 0, none⟩ = some (.string x.1) := cellS78_0 (W := v9_.drew) HI.out.1
          refine start_ (n := 12) (S := fun w' => w'.cell? ⟨o8, 0, none⟩ = some (.int .i64 r.f0) ∧ w'.cell? ⟨o8, 1, none⟩ = some (.int .i64 r.f1) ∧ w'.cell? ⟨o8, 2, none⟩ = some (.int .i64 r.f2) ∧ w'.cell? ⟨o8, 3, none⟩ = some (.int .i64 r.f3) ∧ w'.cell? ⟨o8, 4, none⟩ = some (.int .i64 r.f4) ∧ w'.cell? ⟨o8, 5, none⟩ = some (.int .i64 r.f5) ∧ w'.cell? ⟨o8, 6, none⟩ = some (.int .i64 r.f6) ∧ w'.cell? ⟨o8, 7, none⟩ = some (.string r.f7) ∧ w'.cell? ⟨o8, 8, none⟩ = some (.string r.f8) ∧ w'.cell? ⟨o8, 9, none⟩ = some (.slice A9 r.f9.length c9) ∧ w'.cell? ⟨o8, 10, none⟩ = some (.slice A_ r.f10.length d_) ∧ w'.cell? ⟨w.heap.size + 1, 0, none⟩ = some (.string x.1)) (ds := []) #[false, false, false, false, false, false, false, false, false, false, false, false] (by kernel_rfl) rfl rfl ⟨q0, q1, q2, q3, q4, q5, q6, q7, q8, q9, q10, qs⟩ (fun hHeld => ?_)
          refine rgp 1 144 ?_
          refine rgp 2 145 ?_
          refine rgp 3 146 ?_
          refine rgp 4 147 ?_
          refine rgp 5 148 ?_
          refine rgt 0 143 hHeld ?_
          refine rgt 6 149 hHeld ?_
          refine rgp 7 150 ?_
          refine rgp 8 151 ?_
          refine one_ (i := 9) (N := none) #[true, true, true, true, true, true, true, true, true, true, false, false] rfl rfl (by kernel_rfl) (by decide) (fun K hK => ?_)
          have HI_n := Aside0.mk (IsS78.drew HI.out)
          have HZ_n := Aside0.mk (show v9_.drew.heap[w.heap.size]? = some (.cells #[.int .i64 0, .int .i64 0, .int .i64 0, .int .i64 0, .int .i64 0, .int .i64 0, .int .i64 0, .string ⟨#[]⟩, .string ⟨#[]⟩, .slice none 0 0, .slice none 0 0] 25 (0, 0)) from HZ.out)
          have HOr_n := Aside0.mk (show v9_.drew.heap[o8]? = some (.cells #[.int .i64 r.f0, .int .i64 r.f1, .int .i64 r.f2, .int .i64 r.f3, .int .i64 r.f4, .int .i64 r.f5, .int .i64 r.f6, .string r.f7, .string r.f8, .slice A9 r.f9.length c9, .slice A_ r.f10.length d_] 25 (0, 0)) from HOr.out)
          have R9_n := Aside0.mk (Kd.R_drew R9.out)
          have R10_n := Aside0.mk (Kd.R_drew R10.out)
          have HB_n := Aside0.mk (HB.out.trans (((Below.refl v9_.heap.size v9_).drew).mono HB.out.size))
          clear HI HZ HOr R9 R10 HB
          have HI := HI_n
          have HZ := HZ_n
          have HOr := HOr_n
          have R9 := R9_n
          have R10 := R10_n
          have HB := HB_n
          clear HI_n HZ_n HOr_n R9_n R10_n HB_n
          clear z0 f0 z1 f1 z2 f2 z3 f3 z4 f4 z5 f5 z6 f6 z7 f7 z8 f8 z9 f9 z10 f10
          generalize v9_.drew = X0_ at *
          obtain ⟨z0, f0, z1, f1, z2, f2, z3, f3, z4, f4, z5, f5, z6, f6, z7, f7, z8, f8, z9, f9, z10, f10⟩ := cellsF11 X0_ (w.heap.size) HZ.out
          refine skip_ (w1 := ?_) (by kernel_rfl) rfl ?_ ?_
          rotate_left
          · go_simp
            rfl
          have hn8_ : o8 ≠ w.heap.size := HN48.out.symm
          have hng_ : w.heap.size + 1 ≠ w.heap.size := by omega
          have HI_n := Aside0.mk (show IsS78 w (((((((((((X0_.setCell ⟨w.heap.size, 0, none⟩ (.int .i64 r.f0)).setCell ⟨w.heap.size, 1, none⟩ (.int .i64 r.f1)).setCell ⟨w.heap.size, 2, none⟩ (.int .i64 r.f2)).setCell ⟨w.heap.size, 3, none⟩ (.int .i64 r.f3)).setCell ⟨w.heap.size, 4, none⟩ (.int .i64 r.f4)).setCell ⟨w.heap.size, 5, none⟩ (.int .i64 r.f5)).setCell ⟨w.heap.size, 6, none⟩ (.int .i64 r.f6)).setCell ⟨w.heap.size, 7, none⟩ (.string r.f7)).setCell ⟨w.heap.size, 8, none⟩ (.string r.f8)).setCell ⟨w.heap.size, 9, none⟩ (.slice A9 r.f9.length c9)).setCell ⟨w.heap.size, 10, none⟩ (.slice A_ r.f10.length d_)) (w.heap.size + 1) x.1 x.2 from ⟨keep11 HI.out.1 hng_ (.int .i64 r.f0) (.int .i64 r.f1) (.int .i64 r.f2) (.int .i64 r.f3) (.int .i64 r.f4) (.int .i64 r.f5) (.int .i64 r.f6) (.string r.f7) (.string r.f8) (.slice A9 r.f9.length c9) (.slice A_ r.f10.length d_), HI.out.2⟩)
          have R9_n := Aside0.mk (R11 R9.out ⟨_, HZ.out⟩ (by decide) (.int .i64 r.f0) (.int .i64 r.f1) (.int .i64 r.f2) (.int .i64 r.f3) (.int .i64 r.f4) (.int .i64 r.f5) (.int .i64 r.f6) (.string r.f7) (.string r.f8) (.slice A9 r.f9.length c9) (.slice A_ r.f10.length d_))
          have R10_n := Aside0.mk (R11 R10.out ⟨_, HZ.out⟩ (by decide) (.int .i64 r.f0) (.int .i64 r.f1) (.int .i64 r.f2) (.int .i64 r.f3) (.int .i64 r.f4) (.int .i64 r.f5) (.int .i64 r.f6) (.string r.f7) (.string r.f8) (.slice A9 r.f9.length c9) (.slice A_ r.f10.length d_))
          have HOr_n := Aside0.mk (keep11 HOr.out hn8_ (.int .i64 r.f0) (.int .i64 r.f1) (.int .i64 r.f2) (.int .i64 r.f3) (.int .i64 r.f4) (.int .i64 r.f5) (.int .i64 r.f6) (.string r.f7) (.string r.f8) (.slice A9 r.f9.length c9) (.slice A_ r.f10.length d_))
          have HB_n := Aside0.mk (below11 HB.out (.int .i64 r.f0) (.int .i64 r.f1) (.int .i64 r.f2) (.int .i64 r.f3) (.int .i64 r.f4) (.int .i64 r.f5) (.int .i64 r.f6) (.string r.f7) (.string r.f8) (.slice A9 r.f9.length c9) (.slice A_ r.f10.length d_))
          clear HI R9 R10 HOr HB
          have HI := HI_n
          have R9 := R9_n
          have R10 := R10_n
          have HOr := HOr_n
          have HB := HB_n
          clear HI_n R9_n R10_n HOr_n HB_n
          have HZ_n := Aside0.mk (put11 HZ.out (.int .i64 r.f0) (.int .i64 r.f1) (.int .i64 r.f2) (.int .i64 r.f3) (.int .i64 r.f4) (.int .i64 r.f5) (.int .i64 r.f6) (.string r.f7) (.string r.f8) (.slice A9 r.f9.length c9) (.slice A_ r.f10.length d_))
          clear HZ hn8_ hng_ z0 f0 z1 f1 z2 f2 z3 f3 z4 f4 z5 f5 z6 f6 z7 f7 z8 f8 z9 f9 z10 f10
          have HZ := HZ_n
          clear HZ_n
          generalize ((((((((((X0_.setCell ⟨w.heap.size, 0, none⟩ (.int .i64 r.f0)).setCell ⟨w.heap.size, 1, none⟩ (.int .i64 r.f1)).setCell ⟨w.heap.size, 2, none⟩ (.int .i64 r.f2)).setCell ⟨w.heap.size, 3, none⟩ (.int .i64 r.f3)).setCell ⟨w.heap.size, 4, none⟩ (.int .i64 r.f4)).setCell ⟨w.heap.size, 5, none⟩ (.int .i64 r.f5)).setCell ⟨w.heap.size, 6, none⟩ (.int .i64 r.f6)).setCell ⟨w.heap.size, 7, none⟩ (.string r.f7)).setCell ⟨w.heap.size, 8, none⟩ (.string r.f8)).setCell ⟨w.heap.size, 9, none⟩ (.slice A9 r.f9.length c9)).setCell ⟨w.heap.size, 10, none⟩ (.slice A_ r.f10.length d_) = X1_ at *
          refine hK _ _ ⟨blk_cell HOr.out 0, blk_cell HOr.out 1, blk_cell HOr.out 2, blk_cell HOr.out 3, blk_cell HOr.out 4, blk_cell HOr.out 5, blk_cell HOr.out 6, blk_cell HOr.out 7, blk_cell HOr.out 8, blk_cell HOr.out 9, blk_cell HOr.out 10, cellS78_0 HI.out.1⟩ (fun hHeld => ?_)
          clear hK K
          refine rgp 10 5 ?_
          refine rgp 11 6 ?_
          refine done_ (by kernel_rfl) ?_
          simp only [Exit.then]
          obtain ⟨z0, z1, z2, z3, z4, z5, z6, z7, z8, z9, z10⟩ := cells11 X1_ (w.heap.size) HZ.out
          go_wp2
          refine bodyPost_ret (v := .tuple #[.agg #[.int .i64 r.f0, .int .i64 r.f1, .int .i64 r.f2, .int .i64 r.f3, .int .i64 r.f4, .int .i64 r.f5, .int .i64 r.f6, .string r.f7, .string r.f8, .slice A9 r.f9.length c9, .slice A_ r.f10.length d_], .int .i64 ((s.size : Int) - (x.1.size : Int)), .int .i64 0]) (by simp [results, Try.results19, go_sem, z0, z1, z2, z3, z4, z5, z6, z7, z8, z9, z10]) rfl ?_
          show AfterRR s _ w _ _
          unfold AfterRR
          rw [HRF.out]
          exact ⟨_, _, rfl, R9.out, R10.out, HB.out⟩
end Go.Proofs.Ytcfknakmamcinaa.Wr
