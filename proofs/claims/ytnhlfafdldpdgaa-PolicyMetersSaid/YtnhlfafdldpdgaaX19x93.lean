import Derived.Test.YtnhlfafdldpdgaaX19x90
import Derived.Test.YtnhlfafdldpdgaaMeterP
import Derived.Test.YtnhlfafdldpdgaaRMeter
import Derived.Test.YtnhlfafdldpdgaaRAll
/-! Layer 19: the walk of PolicyMeters. -/
namespace Go.Proofs.Ytnhlfafdldpdgaa.X19
open Go Go.RowKit Go.Proofs.Ytnhlfafdldpdgaa.Arr Go.Proofs.Ytnhlfafdldpdgaa.Flt Go.Proofs.Ytnhlfafdldpdgaa.Cell Go.Proofs.Ytnhlfafdldpdgaa.Pol Go.Proofs.YtnhlfafdldpdgaaW.PrintWords Go.Proofs.YtnhlfafdldpdgaaW.PrintLast Go.Proofs.YtnhlfafdldpdgaaW.PrintMore
set_option linter.unusedVariables false
set_option linter.unusedSimpArgs false
attribute [local go_sem] run_bits run_frombits run_store_float
attribute [local go_sem high] bin_geq bin_leq neq_eq
theorem rnote_go {s t : MS} {x : Nat} (g : Nat) (hx : x < 18446744073709551616) (ho : OkS s) (ht : noteS s x = t) (w : World) (h : MB 52 w g s) : Calls Try.prog 50 #[.pointer (some ⟨g, 0, none⟩), .float .f64 x] w fun e w' => e = .returned (.tuple #[]) ∧ MB 52 w' g t ∧ Fr g w w' := by
  subst ht
  exact rnote_calls s g x hx ho w h
theorem neq5 (a b c d e : Int) (w : World) : (binOp .neq 55 (.agg #[.int .u64 a, .int .u64 b, .int .u64 c, .int .u64 d, .int .u64 e]) (.agg #[.int .u64 a, .int .u64 b, .int .u64 c, .int .u64 d, .int .u64 e])).run Try.prog w = .ok (.bool false) w := by
  rw [run_neq_struct, eq_arr5 a b c d e 9998 w]
  rfl
set_option maxHeartbeats 4000000 in
theorem meters_walk (A0 : Option Addr) (c0 : Nat) (l : List UInt64) (w : World) (hr : Kd.C kf w A0 l.length l) : Calls Try.prog 13 #[.slice A0 l.length c0] w (Gives (.bool true) w) := by
  have HB := Aside0.mk (Below.refl w.heap.size w)
  have HAW := Aside0.mk awake19_go
  have hm := Kd.C_max hr
  have HR := Aside0.mk hr; clear hr
  by_cases h : (300 : Int) < (l.length : Int)
  · go_enter Try.func13, Try.ntmps13
    go_wp2_with (first | (go_at_call 33; with_reducible refine (HAW.out _).mono ?_; rintro e w1 ⟨rfl, hb1⟩; have n_ := Aside0.mk (Arr.below_trans HB.out hb1); clear HB; have HB := n_; clear n_ hb1))
    go_ret
    exact ⟨rfl, HB.out⟩
  · have h300 := Aside0.mk (show l.length ≤ 300 by omega)
    go_enter Try.func13, Try.ntmps13
    go_upto_region 4 with (first | (go_at_call 33; with_reducible refine (HAW.out _).mono ?_; rintro e w1 ⟨rfl, hb1⟩; have n_ := Aside0.mk (Arr.below_trans HB.out hb1); clear HB; have HB := n_; clear n_ hb1))
    have ha := MB.new w1 49
    have hb := (Below.refl w1.heap.size w1).alloc (Nat.le_refl _) (Obj.cells #[.int .i64 0, .float .f64 0, .float .f64 0, .float .f64 0, .float .f64 0] 49)
    have hc := MB.new (w1.alloc (Obj.cells #[.int .i64 0, .float .f64 0, .float .f64 0, .float .f64 0, .float .f64 0] 49)) 52
    have hd := (Below.refl (w1.alloc (Obj.cells #[.int .i64 0, .float .f64 0, .float .f64 0, .float .f64 0, .float .f64 0] 49)).heap.size (w1.alloc (Obj.cells #[.int .i64 0, .float .f64 0, .float .f64 0, .float .f64 0, .float .f64 0] 49))).alloc (Nat.le_refl _) (Obj.cells #[.int .i64 0, .float .f64 0, .float .f64 0, .float .f64 0, .float .f64 0] 52)
    have ha2 := ha.below hd
    have hne : w1.heap.size ≠ (w1.alloc (Obj.cells #[.int .i64 0, .float .f64 0, .float .f64 0, .float .f64 0, .float .f64 0] 49)).heap.size := Nat.ne_of_lt ha.lt
    have hbb := Arr.below_trans HB.out (Arr.below_trans hb hd)
    have hg1 : w.heap.size ≤ w1.heap.size := HB.out.size
    have hg2 : w.heap.size ≤ (w1.alloc (Obj.cells #[.int .i64 0, .float .f64 0, .float .f64 0, .float .f64 0, .float .f64 0] 49)).heap.size := Nat.le_trans hg1 (Nat.le_of_lt ha.lt)
    clear ha hb hd HB
    have hsz : (w1.alloc (Obj.cells #[.int .i64 0, .float .f64 0, .float .f64 0, .float .f64 0, .float .f64 0] 49)).heap.size = w1.heap.size + 1 := Array.size_push ..
    rw [hsz] at hc hne hg2
    clear hsz
    generalize (w1.alloc (Obj.cells #[.int .i64 0, .float .f64 0, .float .f64 0, .float .f64 0, .float .f64 0] 49)).alloc (Obj.cells #[.int .i64 0, .float .f64 0, .float .f64 0, .float .f64 0, .float .f64 0] 52) = w2 at *
    generalize w1.heap.size = g1 at *
    have HA := Aside0.mk ha2; have HC := Aside0.mk hc; have HB := Aside0.mk hbb; have HG1 := Aside0.mk hg1; have HG2 := Aside0.mk hg2; have HNE := Aside0.mk hne
    clear ha2 hc hbb hg1 hg2 hne
    go_upto_region 6 with (fail)
    go_loopw [5] (fun i wr => ∃ k : Nat, i = .int .i64 k ∧ Aside0 (k ≤ l.length) ∧ Aside0 (MB 49 wr g1 (runS (numsL l k))) ∧ Aside0 (MB 52 wr (g1 + 1) (runS (numsL l k))) ∧ Aside0 (Below w.heap.size w wr)) (fun i _ => l.length - (intOf i).toNat)
    case atStart => exact ⟨0, rfl, ⟨by omega⟩, HA, HC, HB⟩
    case round =>
      clear HA HC HB
      obtain ⟨k, rfl, K, HA, HC, HB⟩ := hrel
      have HO := Aside0.mk (run_nums_ok l k (by have := h300.out; have := K.out; omega))
      have HS : Aside0 (∀ x, x < 18446744073709551616 → noteS (runS (numsL l k)) x = noteS (runS (numsL l k)) x) := ⟨fun _ _ => rfl⟩
      have HN1 := Aside0.mk (show k < l.length → noteS (runS (numsL l k)) (at_ l k) = runS (numsL l (k + 1)) from fun _ => by rw [numsL_succ, runS_snoc])
      obtain ⟨s, hs⟩ : ∃ s, runS (numsL l k) = s := ⟨_, rfl⟩
      rw [hs] at HA HC HO HN1
      clear HS hs
      have hwn : IntKind.u64.wrap (s.n : Int) = (s.n : Int) := by have := HO.out.1; rw [IntKind.wrap_u64]; omega
      have HL := Aside0.mk (rbits_calls (leastV s)); have HT := Aside0.mk (rbits_calls (mostV s))
      go_upto_region 7 with (first | (go_at_call 43; with_reducible refine (count_calls s g1 _ HA.out).mono ?_; rintro e w1 ⟨rfl, hb1⟩; have n_ := Aside0.mk (Arr.below_trans HB.out hb1); clear HB; have HB := n_; clear n_; have m_ := Aside0.mk (HA.out.below hb1); clear HA; have HA := m_; clear m_; have m_ := Aside0.mk (HC.out.below hb1); clear HC; have HC := m_; clear m_ hb1) | (go_at_call 44; with_reducible refine (mean_calls s g1 _ HA.out).mono ?_; rintro e w1 ⟨rfl, hb1⟩; have n_ := Aside0.mk (Arr.below_trans HB.out hb1); clear HB; have HB := n_; clear n_; have m_ := Aside0.mk (HA.out.below hb1); clear HA; have HA := m_; clear m_; have m_ := Aside0.mk (HC.out.below hb1); clear HC; have HC := m_; clear m_ hb1) | (go_at_call 45; with_reducible refine (spread_calls s g1 _ HA.out).mono ?_; rintro e w1 ⟨rfl, hb1⟩; have n_ := Aside0.mk (Arr.below_trans HB.out hb1); clear HB; have HB := n_; clear n_; have m_ := Aside0.mk (HA.out.below hb1); clear HA; have HA := m_; clear m_; have m_ := Aside0.mk (HC.out.below hb1); clear HC; have HC := m_; clear m_ hb1) | (go_at_call 46; with_reducible refine (least_calls s g1 _ HA.out).mono ?_; rintro e w1 ⟨rfl, hb1⟩; have n_ := Aside0.mk (Arr.below_trans HB.out hb1); clear HB; have HB := n_; clear n_; have m_ := Aside0.mk (HA.out.below hb1); clear HA; have HA := m_; clear m_; have m_ := Aside0.mk (HC.out.below hb1); clear HC; have HC := m_; clear m_ hb1) | (go_at_call 47; with_reducible refine (most_calls' s g1 _ HA.out).mono ?_; rintro e w1 ⟨rfl, hb1⟩; have n_ := Aside0.mk (Arr.below_trans HB.out hb1); clear HB; have HB := n_; clear n_; have m_ := Aside0.mk (HA.out.below hb1); clear HA; have HA := m_; clear m_; have m_ := Aside0.mk (HC.out.below hb1); clear HC; have HC := m_; clear m_ hb1) | (go_at_call 21; with_reducible refine (HL.out _).mono ?_; rintro e w1 ⟨rfl, hb1⟩; have n_ := Aside0.mk (Arr.below_trans HB.out hb1); clear HB; have HB := n_; clear n_; have m_ := Aside0.mk (HA.out.below hb1); clear HA; have HA := m_; clear m_; have m_ := Aside0.mk (HC.out.below hb1); clear HC; have HC := m_; clear m_ hb1) | (go_at_call 21; with_reducible refine (HT.out _).mono ?_; rintro e w1 ⟨rfl, hb1⟩; have n_ := Aside0.mk (Arr.below_trans HB.out hb1); clear HB; have HB := n_; clear n_; have m_ := Aside0.mk (HA.out.below hb1); clear HA; have HA := m_; clear m_; have m_ := Aside0.mk (HC.out.below hb1); clear HC; have HC := m_; clear m_ hb1))
      have hb0 := heap_alloc_new w1 (Obj.cells #[.int .u64 (s.n : Int), .int .u64 (meanV s : Nat), .int .u64 (spreadV s : Nat), .int .u64 (cn (leastV s) : Nat), .int .u64 (cn (mostV s) : Nat)] 55)
      have hbl := (Below.refl w1.heap.size w1).alloc (Nat.le_refl _) (Obj.cells #[.int .u64 (s.n : Int), .int .u64 (meanV s : Nat), .int .u64 (spreadV s : Nat), .int .u64 (cn (leastV s) : Nat), .int .u64 (cn (mostV s) : Nat)] 55)
      have HA2 := Aside0.mk (HA.out.below hbl); have HC2 := Aside0.mk (HC.out.below hbl); have HB2 := Aside0.mk (Arr.below_trans HB.out hbl)
      clear HA HC HB hbl HL HT hwn
      have q5 := neq5 (s.n : Int) (meanV s : Nat) (spreadV s : Nat) (cn (leastV s) : Nat) (cn (mostV s) : Nat)
      have HALL := Aside0.mk (show ∀ w3 : World, MB 52 w3 (g1 + 1) s → Calls Try.prog 48 #[.pointer (some ⟨g1 + 1, 0, none⟩)] w3 (Gives (.agg #[.int .u64 (s.n : Int), .int .u64 (meanV s : Nat), .int .u64 (spreadV s : Nat), .int .u64 (cn (leastV s) : Nat), .int .u64 (cn (mostV s) : Nat)]) w3) from fun w3 hm3 => rall_calls s (g1 + 1) w3 HO.out hm3)
      generalize ((meanV s : Nat) : Int) = x1 at *
      generalize ((spreadV s : Nat) : Int) = x2 at *
      generalize ((cn (leastV s) : Nat) : Int) = x3 at *
      generalize ((cn (mostV s) : Nat) : Int) = x4 at *
      generalize ((s.n : Nat) : Int) = x0 at *
      generalize w1.alloc (Obj.cells #[.int .u64 x0, .int .u64 x1, .int .u64 x2, .int .u64 x3, .int .u64 x4] 55) = w5 at *
      generalize w1.heap.size = gB at *
      have y0 : w5.drew.cell? ⟨gB, 0, none⟩ = some (.int .u64 x0) := blk_cell hb0 0
      have y1 : w5.drew.cell? ⟨gB, 1, none⟩ = some (.int .u64 x1) := blk_cell hb0 1
      have y2 : w5.drew.cell? ⟨gB, 2, none⟩ = some (.int .u64 x2) := blk_cell hb0 2
      have y3 : w5.drew.cell? ⟨gB, 3, none⟩ = some (.int .u64 x3) := blk_cell hb0 3
      have y4 : w5.drew.cell? ⟨gB, 4, none⟩ = some (.int .u64 x4) := blk_cell hb0 4
      have HAD := Aside0.mk (HA2.out.below (w1 := w5.drew) (Below.refl _ _).drew); have HCD := Aside0.mk (HC2.out.below (w1 := w5.drew) (Below.refl _ _).drew); have HBD := Aside0.mk HB2.out.drew
      clear HA2 HC2 HB2 hb0
      refine start_ (n := 4) (S := fun w' => w'.cell? ⟨gB, 0, none⟩ = some (.int .u64 x0) ∧ w'.cell? ⟨gB, 1, none⟩ = some (.int .u64 x1) ∧ w'.cell? ⟨gB, 2, none⟩ = some (.int .u64 x2) ∧ w'.cell? ⟨gB, 3, none⟩ = some (.int .u64 x3) ∧ w'.cell? ⟨gB, 4, none⟩ = some (.int .u64 x4)) (ds := []) #[false, false, false, false] (by kernel_rfl) rfl rfl ⟨y0, y1, y2, y3, y4⟩ (fun hHeld => ?_)
      refine pure_ (i := 1) (N := some 38) (v := ?_) (a' := ?_) #[false, true, false, false] rfl rfl (by kernel_rfl) (fun _ _ _ h => h) (Or.inl ⟨by kernel_rfl, ?_⟩) ?_ ?_
      rotate_left
      · intro w'
        go_simp
        with_reducible rfl
      rotate_left
      · simp only [Act.put, List.setIfInBounds_toArray, List.set_cons_zero, List.set_cons_succ, i64_w, i32_w]
        rfl
      refine take_ (i := 0) (N := some 37) (v := ?_) (a' := ?_) #[true, true, false, false] rfl rfl (by kernel_rfl) (fun _ _ _ h => h) (Or.inl ⟨by kernel_rfl, ?_⟩) hHeld ?_ ?_
      rotate_left
      · rintro w' ⟨s0_, s1_, s2_, s3_, s4_⟩
        go_simp
        with_reducible rfl
      rotate_left
      · simp only [Act.put, List.setIfInBounds_toArray, List.set_cons_zero, List.set_cons_succ, i64_w, i32_w]
        rfl
      refine one_ (i := 2) (N := some 39) #[true, true, true, false] rfl rfl (by kernel_rfl) (by decide) (fun K hK => ?_)
      refine goes_ Try.func48 (by kernel_rfl) rfl #[.pointer (some ⟨g1 + 1, 0, none⟩)] (by rfl) rfl rfl (by (try simp only [List.map_toArray, List.map_cons, List.map_nil]); first | done | rfl) ?_
      refine (HALL.out _ HCD.out).mono ?_
      rintro e w6 ⟨rfl, hb1⟩
      refine ⟨_, rfl, ?_⟩
      have HA := Aside0.mk (HAD.out.below hb1); have HC := Aside0.mk (HCD.out.below hb1); have HB := Aside0.mk (Arr.below_trans HBD.out hb1)
      refine hK _ _ ⟨pw_cell_below hb1 hHeld.1, pw_cell_below hb1 hHeld.2.1, pw_cell_below hb1 hHeld.2.2.1, pw_cell_below hb1 hHeld.2.2.2.1, pw_cell_below hb1 hHeld.2.2.2.2⟩ (fun _ => ?_)
      clear hK K hb1
      refine norm_ (a' := ?_) ?_ ?_
      rotate_left
      · show Act.put _ (some 39) _ = _
        simp only [Act.put, List.setIfInBounds_toArray, List.set_cons_zero, List.set_cons_succ, i64_w, i32_w]
        rfl
      refine pure_ (i := 3) (N := some 40) (v := ?_) (a' := ?_) #[true, true, true, true] rfl rfl (by kernel_rfl) (fun _ _ _ h => h) (Or.inl ⟨by kernel_rfl, ?_⟩) ?_ ?_
      rotate_left
      · intro w'
        go_simp
        with_reducible rfl
      rotate_left
      · simp only [Act.put, List.setIfInBounds_toArray, List.set_cons_zero, List.set_cons_succ, i64_w, i32_w]
        rfl
      refine done_ (by kernel_rfl) ?_
      clear hHeld y0 y1 y2 y3 y4 HAD HCD HBD HALL q5
      by_cases hlt : k < l.length
      · have hne : ((k : Int) == (l.length : Int)) = false := by simpa using (by omega : ¬ (k : Int) = (l.length : Int))
        have h0 : (0 : Int) ≤ (k : Int) := by omega
        have h1 : (k : Int) < (l.length : Int) := by omega
        have hN1 := HN1.out hlt
        have HN := Aside0.mk hN1; clear hN1 HN1
        obtain ⟨ad, rfl, hc⟩ := f_at HR.out k hlt
        rw [at_eq l k hlt] at hc
        have HCK := Aside0.mk hc
        replace hc := pw_cell_below HB.out hc
        have hwk : wrap64 ((k : Int) + 1) = ((k + 1 : Nat) : Int) := by unfold wrap64; omega
        go_upto_region 12 with (go_at_call 49; refine (note_go g1 (at_lt l k) HO.out HN.out _ HA.out).mono ?_; rintro e w7 ⟨rfl, hm1, hf1⟩)
        have n_ := Aside0.mk (HB.out.trans (hf1.1.mono HG1.out)); clear HB; have HB := n_; clear n_
        have n_ := Aside0.mk (HC.out.other hf1 (fun q => HNE.out q.symm)); clear HC; have HC := n_; clear n_
        clear HA; have HA := Aside0.mk hm1; clear hm1 hf1 hc
        have hc3 := pw_cell_below HB.out HCK.out
        go_wp2_with (go_at_call 50; refine (rnote_go (g1 + 1) (at_lt l k) HO.out HN.out _ HC.out).mono ?_; rintro e w8 ⟨rfl, hm1, hf1⟩; have n_ := Aside0.mk (HB.out.trans (hf1.1.mono HG2.out)); clear HB; have HB := n_; clear n_; have n_ := Aside0.mk (HA.out.other hf1 HNE.out); clear HA; have HA := n_; clear n_; clear HC; have HC := Aside0.mk hm1; clear hm1 hf1 hc3)
        go_roundw
        case rel => exact ⟨k + 1, by first | rw [hwk] | go_num, ⟨by omega⟩, HA, HC, HB⟩
        case measure =>
          try rw [hwk]
          simp [intOf]; omega
      · obtain rfl : k = l.length := by have := K.out; omega
        have hne : ((l.length : Int) == (l.length : Int)) = true := int_eq _
        clear hlt HN1
        go_wp2
        go_ret
        exact ⟨rfl, HB.out⟩
def careenlaw19_PolicyMeters.f (l0 : List UInt64) : Option Bool := some true
theorem careenlaw19_PolicyMeters.calls (A0 : Option Addr) (c0 : Nat) (l0 : List UInt64) (r : Bool) (w : World) (hr0 : Kd.C kf w A0 l0.length l0) (hc0 : l0.length ≤ c0) (h : careenlaw19_PolicyMeters.f l0 = some r) :
    Calls Try.prog 13 #[.slice A0 l0.length c0] w fun e w' => e = .returned (.bool r) ∧ Below w.heap.size w w' := by
  obtain rfl := Option.some.inj h
  exact meters_walk A0 c0 l0 w hr0
end Go.Proofs.Ytnhlfafdldpdgaa.X19
