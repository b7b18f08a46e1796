import Derived.Test.YtnhlfafdldpdgaaBetw2
/-! Layer 19: the walk of PolicyBetween. -/
namespace Go.Proofs.Ytnhlfafdldpdgaa.X19
open Go Go.RowKit Go.Proofs.Ytnhlfafdldpdgaa.Arr Go.Proofs.Ytnhlfafdldpdgaa.Flt Go.Proofs.Ytnhlfafdldpdgaa.Cell Go.Proofs.Ytnhlfafdldpdgaa.Pol Go.Proofs.YtnhlfafdldpdgaaW.PrintWords Go.Proofs.YtnhlfafdldpdgaaW.PrintLast Go.Proofs.YtnhlfafdldpdgaaW.PrintMore
set_option linter.unusedVariables false
set_option linter.unusedSimpArgs false
attribute [local go_sem] run_bits run_frombits run_store_float
attribute [local go_sem high] bin_geq bin_leq neq_eq
theorem between_walk (A0 : Option Addr) (c0 : Nat) (l : List UInt64) (w : World) (hr : Kd.C kf w A0 l.length l) : Calls Try.prog 15 #[.slice A0 l.length c0] w (Gives (.bool true) w) := by
  have HB := Aside0.mk (Below.refl w.heap.size w)
  have HAW := Aside0.mk awake19_go
  have hm := Kd.C_max hr
  have HR := Aside0.mk hr; clear hr
  by_cases hz : l.length = 0
  · have z0 : ((l.length : Int) == 0) = true := by simp [hz]
    clear hz
    go_enter Try.func15, Try.ntmps15
    go_wp2_with (first | (go_at_call 33; with_reducible refine (HAW.out _).mono ?_; rintro e w1 ⟨rfl, hb1⟩; have n_ := Aside0.mk (Arr.below_trans HB.out hb1); clear HB; have HB := n_; clear n_ hb1))
    go_ret
    exact ⟨rfl, HB.out⟩
  · have z0 : ((l.length : Int) == 0) = false := by simpa using (by omega : ¬ l.length = 0)
    by_cases h : (200 : Int) < (l.length : Int)
    · clear hz
      go_enter Try.func15, Try.ntmps15
      go_wp2_with (first | (go_at_call 33; with_reducible refine (HAW.out _).mono ?_; rintro e w1 ⟨rfl, hb1⟩; have n_ := Aside0.mk (Arr.below_trans HB.out hb1); clear HB; have HB := n_; clear n_ hb1))
      go_ret
      exact ⟨rfl, HB.out⟩
    · have h200 := Aside0.mk (show l.length ≤ 200 by omega)
      have HZ := Aside0.mk hz; clear hz
      go_enter Try.func15, Try.ntmps15
      go_upto_region 4 with (first | (go_at_call 33; with_reducible refine (HAW.out _).mono ?_; rintro e w1 ⟨rfl, hb1⟩; have n_ := Aside0.mk (Arr.below_trans HB.out hb1); clear HB; have HB := n_; clear n_ hb1))
      have ha := MB.new w1 49
      have hb := (Below.refl w1.heap.size w1).alloc (Nat.le_refl _) (Obj.cells #[.int .i64 0, .float .f64 0, .float .f64 0, .float .f64 0, .float .f64 0] 49)
      have hbb := Arr.below_trans HB.out hb
      have hg1 : w.heap.size ≤ w1.heap.size := HB.out.size
      clear hb HB
      generalize w1.alloc (Obj.cells #[.int .i64 0, .float .f64 0, .float .f64 0, .float .f64 0, .float .f64 0] 49) = w2 at *
      generalize w1.heap.size = g1 at *
      have HA := Aside0.mk ha; have HB := Aside0.mk hbb; have HG1 := Aside0.mk hg1
      clear ha hbb hg1
      go_upto_region 5 with (fail)
      go_loopw [5, 23] (fun _ i wr => ∃ k : Nat, i = .int .i64 k ∧ Aside0 (k ≤ l.length) ∧ Aside0 (∀ j, j < k → Small (at_ l j)) ∧ Aside0 (MB 49 wr g1 (runS (numsL l k))) ∧ Aside0 (Below w.heap.size w wr)) (fun _ i _ => l.length - (intOf i).toNat)
      case atStart => exact ⟨0, rfl, ⟨by omega⟩, ⟨fun j hj => by omega⟩, HA, HB⟩
      case round =>
        clear HA HB
        obtain ⟨k, rfl, K, HSM, HA, HB⟩ := hrel
        by_cases hlt : (k : Int) < (l.length : Int)
        · have hk : k < l.length := by omega
          have h0 : (0 : Int) ≤ (k : Int) := by omega
          obtain ⟨ad, rfl, hc⟩ := f_at HR.out k hk
          replace hc := pw_cell_below HB.out hc
          rw [at_eq l k hk] at hc
          have hwk : wrap64 ((k : Int) + 1) = ((k + 1 : Nat) : Int) := by unfold wrap64; omega
          have HN := Aside0.mk (show noteS (runS (numsL l k)) (at_ l k) = runS (numsL l (k + 1)) by rw [numsL_succ, runS_snoc])
          have HO := Aside0.mk (run_nums_ok l k (by have := h200.out; omega))
          cases t1 : (FloatKind.f64.format.order (at_ l k) 13965043853221167104 == some .gt) with
          | false =>
            go_wp2
            go_ret
            exact ⟨rfl, HB.out⟩
          | true =>
            cases t2 : (FloatKind.f64.format.order (at_ l k) 4741671816366391296 == some .lt) with
            | false =>
              go_wp2
              go_ret
              exact ⟨rfl, HB.out⟩
            | true =>
              have HSK := Aside0.mk (small_of (at_ l k) (at_lt l k) t1 t2)
              go_wp2_with (go_at_call 49; refine (note_go g1 (at_lt l k) HO.out HN.out _ HA.out).mono ?_; rintro e w7 ⟨rfl, hm1, hf1⟩; have n_ := Aside0.mk (HB.out.trans (hf1.1.mono HG1.out)); clear HB; have HB := n_; clear n_; clear HA; have HA := Aside0.mk hm1; clear hm1 hf1 hc)
              go_roundw
              case rel =>
                refine ⟨k + 1, by first | rw [hwk] | go_num, ⟨by omega⟩, ⟨fun j hj => ?_⟩, HA, HB⟩
                by_cases c : j = k
                · subst c; exact HSK.out
                · exact HSM.out j (by omega)
              case measure =>
                try rw [hwk]
                simp [intOf]; omega
        · obtain rfl : k = l.length := by have := K.out; omega
          clear hlt
          obtain ⟨f0, f1, f2, f3⟩ := between (numsL l l.length) (fun q => HZ.out (by rw [← numsL_len l l.length, q]; rfl)) (by rw [numsL_len]; have := h200.out; omega) (fun y hy => by
            obtain ⟨j, hj, rfl⟩ := List.mem_map.1 hy
            exact HSM.out j (List.mem_range.1 hj))
          rw [numsL_len] at f0
          generalize runS (numsL l l.length) = s at *
          have x0 : ((s.n : Int) == (l.length : Int)) = true := by rw [f0]; exact int_eq _
          have F1 := Aside0.mk f1; have F2 := Aside0.mk f2
          clear f0 f1 f2
          go_wp2_with (first | (go_at_call 43; with_reducible refine (count_calls s g1 _ HA.out).mono ?_; rintro e w1 ⟨rfl, hb1⟩; have n_ := Aside0.mk (Arr.below_trans HB.out hb1); clear HB; have HB := n_; clear n_; have m_ := Aside0.mk (HA.out.below hb1); clear HA; have HA := m_; clear m_ hb1) | (go_at_call 44; with_reducible refine (mean_calls s g1 _ HA.out).mono ?_; rintro e w1 ⟨rfl, hb1⟩; have n_ := Aside0.mk (Arr.below_trans HB.out hb1); clear HB; have HB := n_; clear n_; have m_ := Aside0.mk (HA.out.below hb1); clear HA; have HA := m_; clear m_ hb1) | (go_at_call 46; with_reducible refine (least_calls s g1 _ HA.out).mono ?_; rintro e w1 ⟨rfl, hb1⟩; have n_ := Aside0.mk (Arr.below_trans HB.out hb1); clear HB; have HB := n_; clear n_; have m_ := Aside0.mk (HA.out.below hb1); clear HA; have HA := m_; clear m_ hb1; obtain ⟨b1, w2, hr1, hc1, lb1, hq⟩ := run_op (P := Try.prog) w1 .sub 22 (leastV s) 4607182418800017408 (by simp); have G1 := F1.out b1 hc1; have hb1 := hq; have n_ := Aside0.mk (Arr.below_trans HB.out hb1); clear HB; have HB := n_; clear n_; have m_ := Aside0.mk (HA.out.below hb1); clear HA; have HA := m_; clear m_ hb1 hq hc1) | (go_at_call 47; with_reducible refine (most_calls' s g1 _ HA.out).mono ?_; rintro e w1 ⟨rfl, hb1⟩; have n_ := Aside0.mk (Arr.below_trans HB.out hb1); clear HB; have HB := n_; clear n_; have m_ := Aside0.mk (HA.out.below hb1); clear HA; have HA := m_; clear m_ hb1; obtain ⟨b2, w2, hr2, hc2, lb2, hq⟩ := run_op (P := Try.prog) w1 .add 22 (mostV s) 4607182418800017408 (by simp); have G2 := F2.out b2 hc2; have hb1 := hq; have n_ := Aside0.mk (Arr.below_trans HB.out hb1); clear HB; have HB := n_; clear n_; have m_ := Aside0.mk (HA.out.below hb1); clear HA; have HA := m_; clear m_ hb1 hq hc2) | (go_at_call 45; with_reducible refine (spread_calls s g1 _ HA.out).mono ?_; rintro e w1 ⟨rfl, hb1⟩; have n_ := Aside0.mk (Arr.below_trans HB.out hb1); clear HB; have HB := n_; clear n_; have m_ := Aside0.mk (HA.out.below hb1); clear HA; have HA := m_; clear m_ hb1))
          go_ret
          exact ⟨rfl, HB.out⟩
def careenlaw19_PolicyBetween.f (l0 : List UInt64) : Option Bool := some true
theorem careenlaw19_PolicyBetween.calls (A0 : Option Addr) (c0 : Nat) (l0 : List UInt64) (r : Bool) (w : World) (hr0 : Kd.C kf w A0 l0.length l0) (hc0 : l0.length ≤ c0) (h : careenlaw19_PolicyBetween.f l0 = some r) :
    Calls Try.prog 15 #[.slice A0 l0.length c0] w fun e w' => e = .returned (.bool r) ∧ Below w.heap.size w w' := by
  obtain rfl := Option.some.inj h
  exact between_walk A0 c0 l0 w hr0
end Go.Proofs.Ytnhlfafdldpdgaa.X19
