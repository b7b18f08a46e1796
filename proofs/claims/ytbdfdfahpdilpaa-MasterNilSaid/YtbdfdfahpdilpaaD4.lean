import Derived.Test.YtbdfdfahpdilpaaMul
/-! Layer 3: full sectors, Repeat, New. -/
namespace Go.Proofs.Ytbdfdfahpdilpaa.Dk
open Go Go.RowKit Go.ChangeMaps Go.Proofs.Ytbdfdfahpdilpaa.Arr Go.Proofs.Ytbdfdfahpdilpaa.Mp Go.Proofs.Ytbdfdfahpdilpaa.Ow Go.Proofs.YtbdfdfahpdilpaaW.PrintWords Go.Proofs.YtbdfdfahpdilpaaW.PrintLast Go.Proofs.YtbdfdfahpdilpaaW.PrintMore
set_option linter.unusedVariables false
set_option linter.unusedSimpArgs false
abbrev TB : TypeId := 5
def fullS (c : UInt8) : ByteArray := ⟨(List.replicate 128 c).toArray⟩
def zeroS : ByteArray := noughts 128
theorem row_full (c : UInt8) : row (fullS c) = (List.replicate 128 (Value.int .u8 (c.toNat : Int))).toArray := by
  simp [row, fullS, Lib.byteCells]
theorem full_size (c : UInt8) : (fullS c).size = 128 := by simp [fullS, ByteArray.size]
theorem infoB : (Try.prog.info? TB).map (fun i => (i.zero, i.size, i.bytes)) = some (some (.int .u8 0), 1, 1) := by kernel_rfl
theorem infoS : (Try.prog.info? TS).map (fun i => (i.zero, i.size, i.bytes)) = some (some (.string ⟨#[]⟩), 1, 16) := by kernel_rfl
theorem make_bytes (W : World) (n : Nat) (hn : n ≤ 65536) : (Instr.makeSlice 23 (.int .i64 (n : Int)) (.int .i64 (n : Int))).run Try.prog W = .ok (.slice (some ⟨W.heap.size, 0, none⟩) n n) (W.alloc (.cells (row (noughts n)) TB)) := by
  obtain ⟨i0, hi, h2⟩ := Option.map_eq_some_iff.1 infoB
  have hz : i0.zero = some (.int .u8 0) := congrArg Prod.fst h2
  have hs : i0.size = 1 := congrArg (fun p => p.2.1) h2
  have hb : i0.bytes = 1 := congrArg (fun p => p.2.2) h2
  have h := run_make (P := Try.prog) W 23 TB i0 _ (by kernel_rfl) hi hz .i64 .i64 (n : Int) (n : Int) (by omega) (by omega) (by rw [hb]; omega) (by omega)
  rw [hs, Int.toNat_natCast, Nat.mul_one] at h
  rw [h, row_noughts, ← List.toArray_replicate, ← made_one]
  rfl
def repS (n : Nat) (s : ByteArray) : List Value := List.replicate n (Value.string s)
theorem z128 (w : World) : (zeroValue 102).run Try.prog w = .ok (.agg (row (noughts 128))) w := by rw [row_noughts]; kernel_rfl
attribute [local go_sem] z128
theorem make_strings (W : World) (n : Nat) (hn : n ≤ 65536) : (Instr.makeSlice 37 (.int .i64 (n : Int)) (.int .i64 (n : Int))).run Try.prog W = .ok (.slice (some ⟨W.heap.size, 0, none⟩) n n) (W.alloc (.cells (repS n ⟨#[]⟩).toArray TS)) := by
  obtain ⟨i0, hi, h2⟩ := Option.map_eq_some_iff.1 infoS
  have hz : i0.zero = some (.string ⟨#[]⟩) := congrArg Prod.fst h2
  have hs : i0.size = 1 := congrArg (fun p => p.2.1) h2
  have hb : i0.bytes = 16 := congrArg (fun p => p.2.2) h2
  have h := run_make (P := Try.prog) W 37 TS i0 _ (by kernel_rfl) hi hz .i64 .i64 (n : Int) (n : Int) (by omega) (by omega) (by rw [hb]; omega) (by omega)
  rw [hs, Int.toNat_natCast, Nat.mul_one] at h
  rw [h, repS, ← made_one]
  rfl
theorem zero_calls (w : World) : Calls Try.prog 39 #[] w fun e w' => e = .returned (.string (noughts 128)) ∧ Below w.heap.size w w' := by
  have hb := heap_alloc_new w (.cells (row (noughts 128)) 102)
  have HB := Aside0.mk (((Below.refl w.heap.size w)).alloc (Nat.le_refl _) (.cells (row (noughts 128)) 102))
  have hconv := conv_whole (P := Try.prog) hb 23 TB TS (by kernel_rfl) (by kernel_rfl) (by kernel_rfl) 128 128 rfl
  clear hb
  go_enter Try.func39, Try.ntmps39
  go_wp2
  go_ret
  exact ⟨rfl, HB.out⟩
theorem rzero_calls (w : World) : Calls Try.prog 46 #[] w fun e w' => e = .returned (.string (noughts 128)) ∧ Below w.heap.size w w' := by
  have hb := heap_alloc_new w (.cells (row (noughts 128)) TB)
  have HB := Aside0.mk (((Below.refl w.heap.size w)).alloc (Nat.le_refl _) (.cells (row (noughts 128)) TB))
  have hconv := conv_whole (P := Try.prog) hb 23 TB TS (by kernel_rfl) (by kernel_rfl) (by kernel_rfl) 128 128 rfl
  clear hb
  go_enter Try.func46, Try.ntmps46
  go_wp2_with ((with_reducible refine gate_dst (N := 1) rfl ?_); refine ev_make _ _ 23 rfl rfl _ _ rfl rfl (make_bytes _ 128 (by decide)) ?_)
  go_ret
  exact ⟨rfl, HB.out⟩
def fillA (c : UInt8) (k : Nat) : Array Value := (List.replicate k (Value.int .u8 (c.toNat : Int)) ++ List.replicate (128 - k) (Value.int .u8 0)).toArray
theorem fill_set (c : UInt8) (k : Nat) (h : k < 128) : (fillA c k).setIfInBounds k (Value.int .u8 (c.toNat : Int)) = fillA c (k + 1) := by
  unfold fillA
  rw [List.setIfInBounds_toArray, List.set_append_right _ _ (by simp), List.length_replicate, Nat.sub_self, show 128 - k = (128 - (k + 1)) + 1 by omega, List.replicate_succ, List.set_cons_zero, List.replicate_succ' (n := k)]
  simp
theorem fill_size (c : UInt8) (k : Nat) (h : k ≤ 128) : (fillA c k).size = 128 := by simp [fillA]; omega
theorem fill_cell (c : UInt8) (k : Nat) (h : k < 128) : (fillA c k)[k]? = some (Value.int .u8 0) := by
  simp only [fillA, List.getElem?_toArray, List.getElem?_append, List.length_replicate, Nat.lt_irrefl, if_false, Nat.sub_self, List.getElem?_replicate]
  rw [if_pos (by omega)]
theorem fill_zero (c : UInt8) : fillA c 0 = row (noughts 128) := by rw [row_noughts]; unfold fillA; rw [List.replicate_zero, List.nil_append, List.toArray_replicate]
theorem fill_full (c : UInt8) : fillA c 128 = row (fullS c) := by rw [row_full]; simp [fillA]
theorem full_calls (c : UInt8) (w : World) : Calls Try.prog 17 #[.int .u8 (c.toNat : Int)] w fun e w' => e = .returned (.string (fullS c)) ∧ Below w.heap.size w w' := by
  go_enter Try.func17, Try.ntmps17
  go_upto_region 3 with ((with_reducible refine gate_dst (N := 5) rfl ?_); refine ev_make _ _ 23 rfl rfl _ _ rfl rfl (make_bytes _ 128 (by decide)) ?_)
  have hb : (w.alloc (.cells (row (noughts 128)) TB)).heap[w.heap.size]? = some (.cells (fillA c 0) TB (0, 0)) := by rw [fill_zero]; exact heap_alloc_new w _
  have HB := Aside0.mk (((Below.refl w.heap.size w)).alloc (Nat.le_refl _) (.cells (row (noughts 128)) TB))
  have BK := Aside0.mk hb; clear hb
  generalize hW : (w.alloc (.cells (row (noughts 128)) TB)) = W at *
  clear hW
  go_loopw [8] (fun i wr => ∃ k : Nat, i = .int .i64 k ∧ Aside0 (k ≤ 128) ∧ Aside0 (wr.heap[w.heap.size]? = some (.cells (fillA c k) TB (0, 0))) ∧ Aside0 (Below w.heap.size w wr)) (fun i _ => 128 - (intOf i).toNat)
  case atStart => exact ⟨0, rfl, ⟨by omega⟩, BK, HB⟩
  case round =>
    clear BK HB
    obtain ⟨k, rfl, K, BK, HB⟩ := hrel
    by_cases hlt : (k : Int) < 128
    · have hk : k < 128 := by omega
      have hge : (0 : Int) ≤ (k : Int) := by omega
      have hwk : wrap64 ((k : Int) + 1) = ((k + 1 : Nat) : Int) := by unfold wrap64; omega
      have c1 : wr.cell? ⟨w.heap.size, k, none⟩ = some (.int .u8 0) := (blk_cell BK.out k).trans (fill_cell c k hk)
      have f1 : wr.frozen? ⟨w.heap.size, k, none⟩ = false := blk_frozen BK.out k
      have e1 := blk_put BK.out k (.int .u8 (c.toNat : Int)) (fill_set c k hk)
      have hB1 := HB.out.setCell (p := ⟨w.heap.size, k, none⟩) (Nat.le_refl _) (.int .u8 (c.toNat : Int))
      have K1 := Aside0.mk e1; have K2 := Aside0.mk hB1
      clear e1 hB1
      go_wp2
      go_roundw
      case measure => simp only [intOf]; omega
      case rel => exact ⟨k + 1, rfl, ⟨by omega⟩, K1, K2⟩
    · have hk : k = 128 := by have := K.out; omega
      subst hk
      have hb := BK.out
      rw [fill_full] at hb
      have hconv := conv_whole (P := Try.prog) hb 23 TB TS (by kernel_rfl) (by kernel_rfl) (by kernel_rfl) 128 128 (full_size c)
      clear hb
      go_wp2
      go_ret
      exact ⟨rfl, HB.out⟩
def repA (n k : Nat) (z : ByteArray) : Array Value := (repS k z ++ repS (n - k) ⟨#[]⟩).toArray
theorem rep_len (n : Nat) (z : ByteArray) : (repS n z).length = n := by simp [repS]
theorem repA_size (n k : Nat) (z : ByteArray) (h : k ≤ n) : (repA n k z).size = n := by simp [repA, rep_len]; omega
theorem repA_zero (n : Nat) (z : ByteArray) : repA n 0 z = (repS n ⟨#[]⟩).toArray := by simp [repA, repS]
theorem repA_all (n : Nat) (z : ByteArray) : repA n n z = (repS n z).toArray := by simp [repA, repS]
theorem repA_get (n k : Nat) (z : ByteArray) (j : Nat) (h : j < k) : (repA n k z)[j]? = some (.string z) := by
  simp only [repA, List.getElem?_toArray, List.getElem?_append, rep_len, repS, List.length_replicate, if_pos h, List.getElem?_replicate]
theorem repA_copy (n k c : Nat) (z : ByteArray) (h : k + c ≤ n) : ((repA n k z).toList.take k ++ repS c z ++ (repA n k z).toList.drop (k + c)).toArray = repA n (k + c) z := by
  unfold repA
  congr 1
  simp only [repS]
  rw [List.take_append_of_le_length (by simp), List.take_of_length_le (by simp), List.drop_append, List.drop_of_length_le (by simp), List.length_replicate, List.nil_append, List.replicate_append_replicate]
  rw [show k + c - k = c by omega, List.drop_replicate, show n - k - c = n - (k + c) by omega]
theorem rep_copy (W : World) (n k g b o' : Nat) (cap sl sc : Nat) (z : ByteArray) (hg : W.heap[g]? = some (.cells (repA n k z) TS (0, 0))) (c : Nat) (hc : k + c ≤ n) (hm : c = Nat.min sl (n - k)) (hs : ∀ j, j < c → W.cell? ⟨b, o' + j, none⟩ = some (.string z)) (ty : TypeId) :
    (Builtin.copy_ #[37, 37] ty #[.slice (some ⟨g, k, none⟩) (n - k) cap, .slice (some ⟨b, o', none⟩) sl sc]).run Try.prog W = .ok (goInt c) (W.setRow g (repA n (k + c) z)) := by
  have h := run_copy_row (P := Try.prog) W 37 37 ty TS g k (n - k) cap ⟨b, o', none⟩ sl sc _ TS (repS c z) (by kernel_rfl) (by kernel_rfl) hg (by rw [rep_len]; exact hm) (fun j v hj => by
    have hj2 : j < c := by
      rcases Nat.lt_or_ge j c with h | h
      · exact h
      · rw [List.getElem?_eq_none (by rw [rep_len]; exact h)] at hj; cases hj
    have : v = .string z := by simp [repS, List.getElem?_replicate, hj2] at hj; exact hj.symm
    rw [this, Addr.add_lit]; exact hs j hj2) (by rw [rep_len, repA_size n k z (by omega)]; exact hc) (fun v hv => by rw [List.eq_of_mem_replicate hv]; rfl)
  rw [rep_len, repA_copy n k c z hc] at h
  exact h
set_option maxHeartbeats 4000000 in
set_option maxRecDepth 20000 in
theorem repeat_calls (z : ByteArray) (n : Nat) (h1 : 1 ≤ n) (h2 : n ≤ 512) (b : Nat) (w : World) (hb : w.heap[b]? = some (.cells #[.string z] TS (0, 0))) : Calls Try.prog 38 #[.slice (some ⟨b, 0, none⟩) 1 1, .int .i64 (n : Int)] w fun e w' => ∃ g, w.heap.size ≤ g ∧ e = .returned (.slice (some ⟨g, 0, none⟩) n n) ∧ w'.heap[g]? = some (.cells (repS n z).toArray TS (0, 0)) ∧ Below w.heap.size w w' := by
  have HB := Aside0.mk (Below.refl w.heap.size w)
  have BB := Aside0.mk hb; have H1 := Aside0.mk h1; have H2 := Aside0.mk h2; clear hb h1
  have hu : IntKind.u64.wrap (n : Int) = (n : Int) := by rw [IntKind.wrap_u64]; omega
  have t2 : decide ((9223372036854775807 : Int) < (n : Int)) = false := decide_eq_false (by omega)
  have hw : wrap64 (n : Int) = (n : Int) := by unfold wrap64; omega
  clear h2
  go_enter Try.func38, Try.ntmps38
  go_upto_region 6 with (go_at_call 54; with_reducible refine (mul_calls n H2.out _).mono ?_; rintro e w1 ⟨rfl, hb1⟩; have n_ := Aside0.mk (Arr.below_trans HB.out hb1); clear HB; have HB := n_; clear n_ hb1)
  have hb1 : w1.heap[b]? = some (.cells #[.string z] TS (0, 0)) := (HB.out.block b (blk_lt BB.out)).trans BB.out
  clear BB
  have hm0 := make_strings w1 n (by have := H2.out; omega)
  conv at hm0 => lhs; rw [← hw]
  have HM := Aside0.mk hm0; clear hm0
  go_upto_region 7 with ((with_reducible refine gate_dst (N := 30) rfl ?_); refine ev_make (.tmp 29) (.tmp 29) 37 rfl rfl _ _ rfl rfl HM.out ?_)
  have hg0 : (w1.alloc (.cells (repS n ⟨#[]⟩).toArray TS)).heap[w1.heap.size]? = some (.cells (repA n 0 z) TS (0, 0)) := by rw [repA_zero]; exact heap_alloc_new w1 _
  have hb2 := blk_alloc hb1 (.cells (repS n ⟨#[]⟩).toArray TS)
  have hB2 := Arr.below_trans HB.out ((Below.refl _ _).alloc (Nat.le_refl _) (.cells (repS n ⟨#[]⟩).toArray TS))
  have hge_ := Aside0.mk HB.out.size
  clear HB HM hb1
  generalize w1.alloc (.cells (repS n ⟨#[]⟩).toArray TS) = W at *
  generalize w1.heap.size = g at *
  have HG := Aside0.mk hg0; have HBB := Aside0.mk hb2; have HB := Aside0.mk hB2
  clear hg0 hb2 hB2
  have hcp := rep_copy W n 0 g b 0 n 1 1 z HG.out 1 (by have := H1.out; omega) (by rw [Nat.sub_zero]; exact (Nat.min_eq_left H1.out).symm) (fun j hj => by have e : j = 0 := (by omega); subst e; exact blk_cell HBB.out 0) 3
  rw [Nat.sub_zero, Nat.zero_add] at hcp
  go_upto_region 8 with (fail)
  have hs := set_row HG.out (repA n 1 z)
  have hB3 := below_setRow HB.out hge_.out (repA n 1 z)
  clear HG HB hcp HBB
  generalize W.setRow g (repA n 1 z) = W2 at *
  have HG := Aside0.mk hs; have HB := Aside0.mk hB3
  clear hs hB3
  go_loopw [8] (fun i wr => ∃ k : Nat, i = .int .i64 k ∧ Aside0 (1 ≤ k ∧ k ≤ n) ∧ Aside0 (wr.heap[g]? = some (.cells (repA n k z) TS (0, 0))) ∧ Aside0 (Below w.heap.size w wr)) (fun i _ => n - (intOf i).toNat)
  case atStart => exact ⟨1, rfl, ⟨⟨by omega, H1.out⟩⟩, HG, HB⟩
  case round =>
    clear HG HB
    obtain ⟨k, rfl, K, HG, HB⟩ := hrel
    by_cases hlt : (k : Int) < (n : Int)
    · have hge : (0 : Int) ≤ (k : Int) := by omega
      have hkn : (k : Int) ≤ (n : Int) := by omega
      obtain ⟨c, hc⟩ : ∃ c, c = Nat.min k (n - k) := ⟨_, rfl⟩
      have hc0 : 1 ≤ c ∧ k + c ≤ n := by have := K.out; rw [hc]; simp only [Nat.min_def]; split <;> omega
      have hcp := rep_copy wr.drew n k g g 0 (n - k) k n z HG.out c hc0.2 hc (fun j hj => by
        rw [Nat.zero_add]
        exact (blk_cell HG.out j).trans (repA_get n k z j (by have := K.out; rw [hc] at hj; have := Nat.min_le_left k (n - k); exact Nat.lt_of_lt_of_le hj this))) 3
      have hwk : wrap64 ((k : Int) + (c : Int)) = ((k + c : Nat) : Int) := by have := H2.out; have := hc0.2; unfold wrap64; omega
      have hs := set_row (w := wr.drew) HG.out (repA n (k + c) z)
      have hB3 := below_setRow HB.out.drew hge_.out (repA n (k + c) z)
      have HG1 := Aside0.mk hs; have HB1 := Aside0.mk hB3; have HC0 := Aside0.mk hc0; have HC := Aside0.mk hc
      clear hs hB3 hc0 hc HG HB
      go_wp2
      go_region
      simp only [Exit.inBlock, Exit.then, hwk]
      go_roundw
      case measure =>
        show n - (intOf (.int .i64 ((k + c : Nat) : Int))).toNat < n - (intOf (.int .i64 (k : Int))).toNat
        simp only [intOf]
        have := HC0.out
        omega
      case rel => exact ⟨_, _, _, _, _, _, _, _, _, _, _, _, _, _, ⟨k + c, rfl, ⟨by have := HC0.out; have := K.out; omega⟩, HG1, HB1⟩, rfl⟩
    · have hk : k = n := by have := K.out; omega
      subst hk
      go_wp2
      go_ret
      exact ⟨g, hge_.out, rfl, by have := HG.out; rw [repA_all] at this; exact this, HB.out⟩
def newD (n : Nat) : DS := ⟨List.replicate n (noughts 128), [], false, -1⟩
theorem new_none (n : Int) (h : ¬ (1 ≤ n ∧ n ≤ 512)) (w : World) : Calls Try.prog 13 #[.int .i64 n] w fun e w' => e = .returned (.tuple #[.pointer none, .int .i64 1]) ∧ Below w.heap.size w w' := by
  rcases Int.lt_or_le n 1 with h1 | h1
  · have t1 : decide (n < 1) = true := decide_eq_true h1
    clear h1 h
    go_enter Try.func13, Try.ntmps13
    go_wp2
    go_ret2
    exact ⟨rfl, Below.refl _ _⟩
  · have t1 : decide (n < 1) = false := decide_eq_false (by omega)
    have t2 : decide (512 < n) = true := decide_eq_true (by omega)
    clear h1 h
    go_enter Try.func13, Try.ntmps13
    go_wp2
    go_ret2
    exact ⟨rfl, Below.refl _ _⟩
set_option maxHeartbeats 4000000 in
theorem new_calls (n : Nat) (h1 : 1 ≤ n) (h2 : n ≤ 512) (w : World) : Calls Try.prog 13 #[.int .i64 (n : Int)] w fun e w' => ∃ g, w.heap.size ≤ g ∧ e = .returned (.tuple #[.pointer (some ⟨g, 0, none⟩), .int .i64 0]) ∧ DK w' (fun k => w.heap.size ≤ k) g (newD n) ∧ Below w.heap.size w w' := by
  have HB := Aside0.mk (Below.refl w.heap.size w)
  have t1 : decide ((n : Int) < 1) = false := decide_eq_false (by omega)
  have t2 : decide (512 < (n : Int)) = false := decide_eq_false (by omega)
  have H1 := Aside0.mk h1; have H2 := Aside0.mk h2; clear h1 h2
  have hmm : ∀ W : World, (Instr.makeMap 78 none).run Try.prog W = .ok (.map (some W.heap.size)) (W.alloc (.map #[] 0)) := fun W => rfl
  go_enter Try.func13, Try.ntmps13
  go_wp2_with (first | (go_at_call 39; with_reducible refine (zero_calls _).mono ?_; rintro e w1 ⟨rfl, hb1⟩; have n_ := Aside0.mk (Arr.below_trans HB.out hb1); clear HB; have HB := n_; clear n_ hb1) | (go_at_call 38; with_reducible refine (repeat_calls (noughts 128) n H1.out H2.out _ _ (heap_alloc_new _ _)).mono ?_; rintro e w2 ⟨gs, hge, rfl, hgs, hb2⟩; have n_ := Aside0.mk (Arr.below_trans (HB.out.alloc HB.out.size (.cells #[.string (noughts 128)] TS)) hb2); have l_ := Aside0.mk (show w.heap.size ≤ gs from Nat.le_trans HB.out.size (Nat.le_trans (by simp) hge)); have GS := Aside0.mk hgs; clear HB hb2 hge hgs; have HB := n_; clear n_))
  go_ret2
  have hb := HB.out
  have q0 := heap_alloc_new (w2.alloc (.map #[] 0)) (.cells #[.slice (some ⟨gs, 0, none⟩) n n, .slice none 0 0, .map (some w2.heap.size), .bool false, .int .i64 (-1)] TD)
  have hlt := blk_lt GS.out
  have q1 : ((w2.alloc (.map #[] 0)).alloc (.cells #[.slice (some ⟨gs, 0, none⟩) n n, .slice none 0 0, .map (some w2.heap.size), .bool false, .int .i64 (-1)] TD)).heap[gs]? = some (.cells (repS n (noughts 128)).toArray TS (0, 0)) := blk_alloc (blk_alloc GS.out _) _
  have q2 : MP ((w2.alloc (.map #[] 0)).alloc (.cells #[.slice (some ⟨gs, 0, none⟩) n n, .slice none 0 0, .map (some w2.heap.size), .bool false, .int .i64 (-1)] TD)) w2.heap.size (fun _ => none) := (MP.made w2).same (by rw [heap_alloc_old]; simp)
  have hsz := hb.size
  refine ⟨w2.heap.size + 1, by omega, by simp, ⟨.slice (some ⟨gs, 0, none⟩) n n, .slice none 0 0, w2.heap.size, ⟨?_, ?_, Ow.nil _ _ _ _, q2, ?_, ?_⟩⟩, (hb.alloc hsz _).alloc (by simp; omega) _⟩
  · rw [World.size_alloc] at q0
    exact q0
  · have e1 : (newD n).safe.length = n := by simp [newD]
    rw [e1]
    refine ⟨⟨by simp [newD], .inr ⟨gs, n, _, ?_, Nat.zero_le _, q1, Nat.le_refl _, by have := H2.out; simp only [maxLen]; omega, by simp [rep_len], ?_⟩⟩, fun k hk => ?_⟩
    · rfl
    · simp [newD, repS]
    · injection hk with hk
      subst hk
      exact l_.out
  · show w.heap.size ≤ w2.heap.size + 1
    omega
  · exact hsz
end Go.Proofs.Ytbdfdfahpdilpaa.Dk
