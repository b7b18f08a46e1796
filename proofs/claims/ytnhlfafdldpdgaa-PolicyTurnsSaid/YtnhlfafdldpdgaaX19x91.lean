import Derived.Test.YtnhlfafdldpdgaaX19x90
import Derived.Test.YtnhlfafdldpdgaaMeterP
/-! Layer 19: the walk of PolicyTurns. -/
namespace Go.Proofs.Ytnhlfafdldpdgaa.X19
open Go Go.RowKit Go.Proofs.Ytnhlfafdldpdgaa.Arr Go.Proofs.Ytnhlfafdldpdgaa.Flt Go.Proofs.Ytnhlfafdldpdgaa.Cell Go.Proofs.Ytnhlfafdldpdgaa.Pol Go.Proofs.YtnhlfafdldpdgaaW.PrintWords Go.Proofs.YtnhlfafdldpdgaaW.PrintLast Go.Proofs.YtnhlfafdldpdgaaW.PrintMore
set_option linter.unusedVariables false
set_option linter.unusedSimpArgs false
attribute [local go_sem] run_bits run_frombits run_store_float
attribute [local go_sem high] bin_geq bin_leq neq_eq
theorem mean_nil (w : World) : Calls Try.prog 44 #[.pointer none] w (Gives (.float .f64 0) w) := by
  have HB := Aside0.mk (Below.refl w.heap.size w)
  go_enter Try.func44, Try.ntmps44
  go_wp2_with (first | (go_at_call 43; with_reducible refine (count_nil _).mono ?_; rintro e w1 ⟨rfl, hb1⟩; have n_ := Aside0.mk (Arr.below_trans HB.out hb1); clear HB; have HB := n_; clear n_ hb1))
  go_ret
  exact ⟨rfl, HB.out⟩
theorem least_nil (w : World) : Calls Try.prog 46 #[.pointer none] w (Gives (.float .f64 (infB 1)) w) := by
  have HB := Aside0.mk (Below.refl w.heap.size w)
  go_enter Try.func46, Try.ntmps46
  go_wp2_with (first | (go_at_call 43; with_reducible refine (count_nil _).mono ?_; rintro e w1 ⟨rfl, hb1⟩; have n_ := Aside0.mk (Arr.below_trans HB.out hb1); clear HB; have HB := n_; clear n_ hb1) | (go_at_call 32; with_reducible refine (inf_calls 1 _).mono ?_; rintro e w1 ⟨rfl, hb1⟩; have n_ := Aside0.mk (Arr.below_trans HB.out hb1); clear HB; have HB := n_; clear n_ hb1))
  go_ret
  exact ⟨rfl, HB.out⟩
theorem umod (x n : Int) (h0 : 0 < n) (h1 : n ≤ 9223372036854775807) : ∃ m : Nat, wrap64 (Int.tmod (IntKind.u64.wrap x) n) = (m : Int) ∧ (m : Int) < n := by
  have h : 0 ≤ IntKind.u64.wrap x ∧ IntKind.u64.wrap x < 18446744073709551616 := by rw [IntKind.wrap_u64]; omega
  have e : Int.tmod (IntKind.u64.wrap x) n = IntKind.u64.wrap x % n := Int.tmod_eq_emod_of_nonneg h.1
  have a := Int.emod_nonneg (IntKind.u64.wrap x) (show n ≠ 0 by omega)
  have b := Int.emod_lt_of_pos (IntKind.u64.wrap x) h0
  refine ⟨(IntKind.u64.wrap x % n).toNat, ?_, by omega⟩
  rw [e]; unfold wrap64; omega
theorem u64_in {x : Int} (h0 : 0 ≤ x) (h1 : x < 18446744073709551616) : IntKind.u64.wrap x = x := by rw [IntKind.wrap_u64]; omega
theorem same_of {s t : MS} (hn : s.n = t.n) (h : s.n ≠ 0 → kz s.lo = kz t.lo ∧ kz s.hi = kz t.hi) : ordF (leastV s) (leastV t) = 0 ∧ ordF (mostV s) (mostV t) = 0 := by
  unfold leastV mostV
  by_cases c : s.n = 0
  · rw [if_pos c, if_pos (by omega), if_pos c, if_pos (by omega)]
    exact ⟨ord_self _, ord_self _⟩
  · rw [if_neg c, if_neg (by omega), if_neg c, if_neg (by omega)]
    exact ⟨(ord_zero _ _).2 (h c).1, (ord_zero _ _).2 (h c).2⟩
theorem v_lt {s : MS} (h : OkS s) : leastV s < 18446744073709551616 ∧ mostV s < 18446744073709551616 := by
  unfold leastV mostV
  have := h.2
  split
  · exact ⟨by decide, by decide⟩
  · exact this
set_option maxHeartbeats 4000000 in
theorem turns_walk (A0 : Option Addr) (c0 : Nat) (l : List UInt64) (turn : Int) (w : World) (hr : Kd.C kf w A0 l.length l) : Calls Try.prog 14 #[.slice A0 l.length c0, .int .i64 turn] w (Gives (.bool true) w) := by
  have HB := Aside0.mk (Below.refl w.heap.size w)
  have HAW := Aside0.mk awake19_go
  have hm := Kd.C_max hr
  have HR := Aside0.mk hr; clear hr
  by_cases hz : l.length = 0
  · have z0 : ((l.length : Int) == 0) = true := by simp [hz]
    clear hz
    go_enter Try.func14, Try.ntmps14
    go_wp2_with (first | (go_at_call 33; with_reducible refine (HAW.out _).mono ?_; rintro e w1 ⟨rfl, hb1⟩; have n_ := Aside0.mk (Arr.below_trans HB.out hb1); clear HB; have HB := n_; clear n_ hb1))
    go_ret
    exact ⟨rfl, HB.out⟩
  · have z0 : ((l.length : Int) == 0) = false := by simpa using (by omega : ¬ l.length = 0)
    by_cases h : (300 : Int) < (l.length : Int)
    · clear hz
      go_enter Try.func14, Try.ntmps14
      go_wp2_with (first | (go_at_call 33; with_reducible refine (HAW.out _).mono ?_; rintro e w1 ⟨rfl, hb1⟩; have n_ := Aside0.mk (Arr.below_trans HB.out hb1); clear HB; have HB := n_; clear n_ hb1))
      go_ret
      exact ⟨rfl, HB.out⟩
    · obtain ⟨m, hmu, hml⟩ := umod turn (l.length : Int) (by omega) (by omega)
      have hu := u64_in (x := (l.length : Int)) (by omega) (by omega)
      have hu2 : ¬ ((l.length : Int) = 0) := by omega
      have h300 := Aside0.mk (show l.length ≤ 300 by omega)
      have HML := Aside0.mk (show m < l.length by omega)
      have HMU := Aside0.mk hmu; clear hmu hz hml
      go_enter Try.func14, Try.ntmps14
      go_upto_region 4 with (first | (go_at_call 33; with_reducible refine (HAW.out _).mono ?_; rintro e w1 ⟨rfl, hb1⟩; have n_ := Aside0.mk (Arr.below_trans HB.out hb1); clear HB; have HB := n_; clear n_ hb1))
      have ha := MB.new w1 49
      have hb := (Below.refl w1.heap.size w1).alloc (Nat.le_refl _) (Obj.cells #[.int .i64 0, .float .f64 0, .float .f64 0, .float .f64 0, .float .f64 0] 49)
      have hc := MB.new (w1.alloc (Obj.cells #[.int .i64 0, .float .f64 0, .float .f64 0, .float .f64 0, .float .f64 0] 49)) 49
      have hd := (Below.refl (w1.alloc (Obj.cells #[.int .i64 0, .float .f64 0, .float .f64 0, .float .f64 0, .float .f64 0] 49)).heap.size (w1.alloc (Obj.cells #[.int .i64 0, .float .f64 0, .float .f64 0, .float .f64 0, .float .f64 0] 49))).alloc (Nat.le_refl _) (Obj.cells #[.int .i64 0, .float .f64 0, .float .f64 0, .float .f64 0, .float .f64 0] 49)
      have ha2 := ha.below hd
      have hne : w1.heap.size ≠ (w1.alloc (Obj.cells #[.int .i64 0, .float .f64 0, .float .f64 0, .float .f64 0, .float .f64 0] 49)).heap.size := Nat.ne_of_lt ha.lt
      have hbb := Arr.below_trans HB.out (Arr.below_trans hb hd)
      have hg1 : w.heap.size ≤ w1.heap.size := HB.out.size
      have hg2 : w.heap.size ≤ (w1.alloc (Obj.cells #[.int .i64 0, .float .f64 0, .float .f64 0, .float .f64 0, .float .f64 0] 49)).heap.size := Nat.le_trans hg1 (Nat.le_of_lt ha.lt)
      clear ha hb hd HB
      have hsz : (w1.alloc (Obj.cells #[.int .i64 0, .float .f64 0, .float .f64 0, .float .f64 0, .float .f64 0] 49)).heap.size = w1.heap.size + 1 := Array.size_push ..
      rw [hsz] at hc hne hg2
      clear hsz
      generalize (w1.alloc (Obj.cells #[.int .i64 0, .float .f64 0, .float .f64 0, .float .f64 0, .float .f64 0] 49)).alloc (Obj.cells #[.int .i64 0, .float .f64 0, .float .f64 0, .float .f64 0, .float .f64 0] 49) = w2 at *
      generalize w1.heap.size = g1 at *
      have HA := Aside0.mk ha2; have HC := Aside0.mk hc; have HB := Aside0.mk hbb; have HG1 := Aside0.mk hg1; have HG2 := Aside0.mk hg2; have HNE := Aside0.mk hne
      clear ha2 hc hbb hg1 hg2 hne
      have hmu := HMU.out
      go_upto_region 6 with (fail)
      clear hu hu2 z0
      try rw [hmu]
      clear hmu
      go_loopw [8, 36] (fun _ i wr => ∃ k : Nat, i = .int .i64 k ∧ Aside0 (k ≤ l.length) ∧ Aside0 (MB 49 wr g1 (runS (numsL l k))) ∧ Aside0 (MB 49 wr (g1 + 1) (runS (turnL l m k))) ∧ Aside0 (Below w.heap.size w wr)) (fun _ i _ => l.length - (intOf i).toNat)
      case atStart => exact ⟨0, rfl, ⟨by omega⟩, HA, HC, HB⟩
      case round =>
        clear HA HC HB
        obtain ⟨k, rfl, K, HA, HC, HB⟩ := hrel
        by_cases hlt : (k : Int) < (l.length : Int)
        · have hk : k < l.length := by omega
          have h0 : (0 : Int) ≤ (k : Int) := by omega
          have hj : (k + m) % l.length < l.length := Nat.mod_lt _ (by omega)
          obtain ⟨j, hjv⟩ : ∃ j, (k + m) % l.length = j := ⟨_, rfl⟩
          rw [hjv] at hj
          have hadd : wrap64 ((k : Int) + (m : Int)) = (k : Int) + (m : Int) := by have := HML.out; have := h300.out; unfold wrap64; omega
          have hmod : Int.tmod ((k : Int) + (m : Int)) (l.length : Int) = (j : Int) := by
            rw [Int.tmod_eq_emod_of_nonneg (by omega), ← hjv, Int.natCast_emod, Int.natCast_add]
          have hj0 : (0 : Int) ≤ (j : Int) := by omega
          have hj1 : (j : Int) < (l.length : Int) := by omega
          obtain ⟨ad, rfl, hc⟩ := f_at HR.out k hk
          obtain ⟨ad', e, hc2⟩ := f_at HR.out j hj
          cases e
          have HCK := Aside0.mk hc; have HCJ := Aside0.mk hc2
          replace hc := pw_cell_below HB.out hc
          rw [at_eq l k hk] at hc
          have hwk : wrap64 ((k : Int) + 1) = ((k + 1 : Nat) : Int) := by unfold wrap64; omega
          have hN1 := numsL_succ l k; have hT1 := turnL_succ l m k
          rw [hjv] at hT1
          have HN1 := Aside0.mk (show noteS (runS (numsL l k)) (at_ l k) = runS (numsL l (k + 1)) by rw [hN1, runS_snoc]); have HT1 := Aside0.mk (show noteS (runS (turnL l m k)) (at_ l j) = runS (turnL l m (k + 1)) by rw [hT1, runS_snoc])
          have HO1 := Aside0.mk (run_nums_ok l k (by have := h300.out; omega)); have HO2 := Aside0.mk (run_turn_ok l m k (by have := h300.out; omega))
          have HJE := Aside0.mk (at_eq l j hj)
          clear hN1 hT1 hc2 hjv
          go_upto_region 9 with (go_at_call 49; refine (note_go g1 (at_lt l k) HO1.out HN1.out _ HA.out).mono ?_; rintro e w3 ⟨rfl, hm1, hf1⟩)
          have n_ := Aside0.mk (HB.out.trans (hf1.1.mono HG1.out)); clear HB; have HB := n_; clear n_
          have n_ := Aside0.mk (HC.out.other hf1 (fun q => HNE.out q.symm)); clear HC; have HC := n_; clear n_
          clear HA; have HA := Aside0.mk hm1; clear hm1 hf1 hc
          have hc3 := pw_cell_below HB.out HCJ.out
          rw [HJE.out] at hc3
          go_upto_region 10 with (go_at_call 49; refine (note_go (g1 + 1) (at_lt l j) HO2.out HT1.out _ HC.out).mono ?_; rintro e w4 ⟨rfl, hm1, hf1⟩)
          have n_ := Aside0.mk (HB.out.trans (hf1.1.mono HG2.out)); clear HB; have HB := n_; clear n_
          have n_ := Aside0.mk (HA.out.other hf1 HNE.out); clear HA; have HA := n_; clear n_
          clear HC; have HC := Aside0.mk hm1; clear hm1 hf1 hc3
          go_wp2
          go_roundw
          case rel => exact ⟨k + 1, by first | rw [hwk] | go_num, ⟨by omega⟩, HA, HC, HB⟩
          case measure =>
            try rw [hwk]
            simp [intOf]; omega
        · obtain rfl : k = l.length := by have := K.out; omega
          clear hlt
          have hp := perm_told (told_run (numsL l l.length)) (told_run (turnL l m l.length)) (turn_perm l m HML.out)
          have ho1 := run_nums_ok l l.length (by have := h300.out; omega)
          have ho2 := run_turn_ok l m l.length (by have := h300.out; omega)
          generalize runS (numsL l l.length) = s at *
          generalize runS (turnL l m l.length) = t at *
          obtain ⟨hnn, hlh⟩ := hp
          obtain ⟨r1, r2⟩ := same_of hnn hlh
          have HOL := Aside0.mk (rorder_calls (leastV s) (leastV t) (v_lt ho1).1 (v_lt ho2).1); have HOM := Aside0.mk (rorder_calls (mostV s) (mostV t) (v_lt ho1).2 (v_lt ho2).2)
          rw [r1] at HOL; rw [r2] at HOM
          have hnt : (t.n : Int) = (s.n : Int) := by omega
          have x0 := int_eq (s.n : Int)
          have q0 : (FloatKind.f64.format.order 0 0 == some .eq) = true := by decide +kernel
          have q1 : (FloatKind.f64.format.order (infB 1) (infB 1) == some .eq) = true := by decide +kernel
          clear hnn hlh r1 r2 ho1 ho2
          go_wp2_with (first | (go_at_call 49; with_reducible refine (note_nil _ _).mono ?_; rintro e w1 ⟨rfl, hb1⟩; have n_ := Aside0.mk (Arr.below_trans HB.out hb1); clear HB; have HB := n_; clear n_; have m_ := Aside0.mk (HA.out.below hb1); clear HA; have HA := m_; clear m_; have m_ := Aside0.mk (HC.out.below hb1); clear HC; have HC := m_; clear m_ hb1) | (go_at_call 43; with_reducible refine (count_nil _).mono ?_; rintro e w1 ⟨rfl, hb1⟩; have n_ := Aside0.mk (Arr.below_trans HB.out hb1); clear HB; have HB := n_; clear n_; have m_ := Aside0.mk (HA.out.below hb1); clear HA; have HA := m_; clear m_; have m_ := Aside0.mk (HC.out.below hb1); clear HC; have HC := m_; clear m_ hb1) | (go_at_call 44; with_reducible refine (mean_nil _).mono ?_; rintro e w1 ⟨rfl, hb1⟩; have n_ := Aside0.mk (Arr.below_trans HB.out hb1); clear HB; have HB := n_; clear n_; have m_ := Aside0.mk (HA.out.below hb1); clear HA; have HA := m_; clear m_; have m_ := Aside0.mk (HC.out.below hb1); clear HC; have HC := m_; clear m_ hb1) | (go_at_call 46; with_reducible refine (least_nil _).mono ?_; rintro e w1 ⟨rfl, hb1⟩; have n_ := Aside0.mk (Arr.below_trans HB.out hb1); clear HB; have HB := n_; clear n_; have m_ := Aside0.mk (HA.out.below hb1); clear HA; have HA := m_; clear m_; have m_ := Aside0.mk (HC.out.below hb1); clear HC; have HC := m_; clear m_ hb1) | (go_at_call 32; with_reducible refine (inf_calls 1 _).mono ?_; rintro e w1 ⟨rfl, hb1⟩; have n_ := Aside0.mk (Arr.below_trans HB.out hb1); clear HB; have HB := n_; clear n_; have m_ := Aside0.mk (HA.out.below hb1); clear HA; have HA := m_; clear m_; have m_ := Aside0.mk (HC.out.below hb1); clear HC; have HC := m_; clear m_ hb1) | (go_at_call 43; with_reducible refine (count_calls s g1 _ HA.out).mono ?_; rintro e w1 ⟨rfl, hb1⟩; have n_ := Aside0.mk (Arr.below_trans HB.out hb1); clear HB; have HB := n_; clear n_; have m_ := Aside0.mk (HA.out.below hb1); clear HA; have HA := m_; clear m_; have m_ := Aside0.mk (HC.out.below hb1); clear HC; have HC := m_; clear m_ hb1) | (go_at_call 43; with_reducible refine (count_calls t (g1 + 1) _ HC.out).mono ?_; rintro e w1 ⟨rfl, hb1⟩; have n_ := Aside0.mk (Arr.below_trans HB.out hb1); clear HB; have HB := n_; clear n_; have m_ := Aside0.mk (HA.out.below hb1); clear HA; have HA := m_; clear m_; have m_ := Aside0.mk (HC.out.below hb1); clear HC; have HC := m_; clear m_ hb1) | (go_at_call 46; with_reducible refine (least_calls s g1 _ HA.out).mono ?_; rintro e w1 ⟨rfl, hb1⟩; have n_ := Aside0.mk (Arr.below_trans HB.out hb1); clear HB; have HB := n_; clear n_; have m_ := Aside0.mk (HA.out.below hb1); clear HA; have HA := m_; clear m_; have m_ := Aside0.mk (HC.out.below hb1); clear HC; have HC := m_; clear m_ hb1) | (go_at_call 46; with_reducible refine (least_calls t (g1 + 1) _ HC.out).mono ?_; rintro e w1 ⟨rfl, hb1⟩; have n_ := Aside0.mk (Arr.below_trans HB.out hb1); clear HB; have HB := n_; clear n_; have m_ := Aside0.mk (HA.out.below hb1); clear HA; have HA := m_; clear m_; have m_ := Aside0.mk (HC.out.below hb1); clear HC; have HC := m_; clear m_ hb1) | (go_at_call 47; with_reducible refine (most_calls' s g1 _ HA.out).mono ?_; rintro e w1 ⟨rfl, hb1⟩; have n_ := Aside0.mk (Arr.below_trans HB.out hb1); clear HB; have HB := n_; clear n_; have m_ := Aside0.mk (HA.out.below hb1); clear HA; have HA := m_; clear m_; have m_ := Aside0.mk (HC.out.below hb1); clear HC; have HC := m_; clear m_ hb1) | (go_at_call 47; with_reducible refine (most_calls' t (g1 + 1) _ HC.out).mono ?_; rintro e w1 ⟨rfl, hb1⟩; have n_ := Aside0.mk (Arr.below_trans HB.out hb1); clear HB; have HB := n_; clear n_; have m_ := Aside0.mk (HA.out.below hb1); clear HA; have HA := m_; clear m_; have m_ := Aside0.mk (HC.out.below hb1); clear HC; have HC := m_; clear m_ hb1) | (go_at_call 26; with_reducible refine (HOL.out _).mono ?_; rintro e w1 ⟨rfl, hb1⟩; have n_ := Aside0.mk (Arr.below_trans HB.out hb1); clear HB; have HB := n_; clear n_; have m_ := Aside0.mk (HA.out.below hb1); clear HA; have HA := m_; clear m_; have m_ := Aside0.mk (HC.out.below hb1); clear HC; have HC := m_; clear m_ hb1) | (go_at_call 26; with_reducible refine (HOM.out _).mono ?_; rintro e w1 ⟨rfl, hb1⟩; have n_ := Aside0.mk (Arr.below_trans HB.out hb1); clear HB; have HB := n_; clear n_; have m_ := Aside0.mk (HA.out.below hb1); clear HA; have HA := m_; clear m_; have m_ := Aside0.mk (HC.out.below hb1); clear HC; have HC := m_; clear m_ hb1))
          go_ret
          exact ⟨rfl, HB.out⟩
def careenlaw19_PolicyTurns.f (l0 : List UInt64) (a1 : Int) : Option Bool := some true
theorem careenlaw19_PolicyTurns.calls (A0 : Option Addr) (c0 : Nat) (l0 : List UInt64) (a1 : Int) (r : Bool) (w : World) (hr0 : Kd.C kf w A0 l0.length l0) (hc0 : l0.length ≤ c0) (h : careenlaw19_PolicyTurns.f l0 a1 = some r) :
    Calls Try.prog 14 #[.slice A0 l0.length c0, .int .i64 a1] w fun e w' => e = .returned (.bool r) ∧ Below w.heap.size w w' := by
  obtain rfl := Option.some.inj h
  exact turns_walk A0 c0 l0 a1 w hr0
end Go.Proofs.Ytnhlfafdldpdgaa.X19
