import Derived.Test.YtnhlfafdldpdgaaAwake19
/-! Layer 19: the walks of PolicyReckons and PolicyVictim. -/
namespace Go.Proofs.Ytnhlfafdldpdgaa.X19
open Go Go.RowKit Go.Proofs.Ytnhlfafdldpdgaa.Arr Go.Proofs.Ytnhlfafdldpdgaa.Flt Go.Proofs.Ytnhlfafdldpdgaa.Cell Go.Proofs.Ytnhlfafdldpdgaa.Pol Go.Proofs.YtnhlfafdldpdgaaW.PrintWords Go.Proofs.YtnhlfafdldpdgaaW.PrintLast Go.Proofs.YtnhlfafdldpdgaaW.PrintMore
set_option linter.unusedVariables false
set_option linter.unusedSimpArgs false
attribute [local go_sem] run_bits run_frombits run_store_float
attribute [local go_sem high] bin_geq bin_leq neq_eq
theorem bool_ne (b : Bool) : (b != b) = false := by cases b <;> rfl
theorem bool_eq (b : Bool) : (b == b) = true := by cases b <;> rfl
theorem int_ne (s : Int) : (s != s) = false := by rw [bne_eq_false_iff_eq]
theorem int_eq (s : Int) : (s == s) = true := by rw [beq_iff_eq]
theorem same_go (x : Nat) (h : cn x = x) (w : World) : Calls Try.prog 34 #[.float .f64 x, .float .f64 x] w (Gives (.bool true) w) := by
  have := same_calls x x w
  rwa [h, int_eq] at this
theorem cn_score (a d h : Nat) : cn (scoreF a d h) = scoreF a d h := cn_vop _ _ _
theorem cn_decay (o x k : Nat) : cn (decayF o x k) = decayF o x k := by
  unfold decayF
  split
  · exact cn_vop _ _ _
  · exact cn_cn _
theorem reckons_walk (a b c d : Nat) (hb : b < 18446744073709551616) (w : World) : Calls Try.prog 11 #[.float .f64 a, .float .f64 b, .float .f64 c, .float .f64 d] w (Gives (.bool true) w) := by
  have HB := Aside0.mk (Below.refl w.heap.size w)
  have HAW := Aside0.mk awake19_go
  have HS1 := Aside0.mk (score_calls a b c); have HS2 := Aside0.mk (rscore_calls a b c); have HS3 := Aside0.mk (same_go (scoreF a b c) (cn_score a b c))
  have HD1 := Aside0.mk (decay_calls a b c hb); have HD2 := Aside0.mk (rdecay_calls a b c hb); have HD3 := Aside0.mk (same_go (decayF a b c) (cn_decay a b c))
  have HU1 := Aside0.mk (due_calls a b c d); have HU2 := Aside0.mk (rdue_calls a b c d)
  have y0 := bool_eq (dueF a b c d)
  generalize scoreF a b c = s at *
  generalize decayF a b c = y at *
  generalize dueF a b c d = u at *
  go_enter Try.func11, Try.ntmps11
  go_wp2_with (first | (go_at_call 33; with_reducible refine (HAW.out _).mono ?_; rintro e w1 ⟨rfl, hb1⟩; have n_ := Aside0.mk (Arr.below_trans HB.out hb1); clear HB; have HB := n_; clear n_ hb1) | (go_at_call 35; with_reducible refine (HS1.out _).mono ?_; rintro e w1 ⟨rfl, hb1⟩; have n_ := Aside0.mk (Arr.below_trans HB.out hb1); clear HB; have HB := n_; clear n_ hb1) | (go_at_call 36; with_reducible refine (HS2.out _).mono ?_; rintro e w1 ⟨rfl, hb1⟩; have n_ := Aside0.mk (Arr.below_trans HB.out hb1); clear HB; have HB := n_; clear n_ hb1) | (go_at_call 37; with_reducible refine (HD1.out _).mono ?_; rintro e w1 ⟨rfl, hb1⟩; have n_ := Aside0.mk (Arr.below_trans HB.out hb1); clear HB; have HB := n_; clear n_ hb1) | (go_at_call 38; with_reducible refine (HD2.out _).mono ?_; rintro e w1 ⟨rfl, hb1⟩; have n_ := Aside0.mk (Arr.below_trans HB.out hb1); clear HB; have HB := n_; clear n_ hb1) | (go_at_call 34; (first | with_reducible refine (HS3.out _).mono ?_ | with_reducible refine (HD3.out _).mono ?_); rintro e w1 ⟨rfl, hb1⟩; have n_ := Aside0.mk (Arr.below_trans HB.out hb1); clear HB; have HB := n_; clear n_ hb1) | (go_at_call 39; with_reducible refine (HU1.out _).mono ?_; rintro e w1 ⟨rfl, hb1⟩; have n_ := Aside0.mk (Arr.below_trans HB.out hb1); clear HB; have HB := n_; clear n_ hb1) | (go_at_call 40; with_reducible refine (HU2.out _).mono ?_; rintro e w1 ⟨rfl, hb1⟩; have n_ := Aside0.mk (Arr.below_trans HB.out hb1); clear HB; have HB := n_; clear n_ hb1))
  go_ret
  exact ⟨rfl, HB.out⟩
def careenlaw19_PolicyReckons.f (a0 a1 a2 a3 : UInt64) : Option Bool := some true
theorem careenlaw19_PolicyReckons.calls (a0 a1 a2 a3 : UInt64) (r : Bool) (w : World) (h : careenlaw19_PolicyReckons.f a0 a1 a2 a3 = some r) :
    Calls Try.prog 11 #[.float .f64 a0.toNat, .float .f64 a1.toNat, .float .f64 a2.toNat, .float .f64 a3.toNat] w fun e w' => e = .returned (.bool r) ∧ Below w.heap.size w w' := by
  obtain rfl := Option.some.inj h
  exact reckons_walk a0.toNat a1.toNat a2.toNat a3.toNat a1.toNat_lt w
theorem victim_walk (A0 : Option Addr) (c0 : Nat) (l : List UInt64) (w : World) (hr : Kd.C kf w A0 l.length l) : Calls Try.prog 12 #[.slice A0 l.length c0] w (Gives (.bool true) w) := by
  have HB := Aside0.mk (Below.refl w.heap.size w)
  have HAW := Aside0.mk awake19_go
  have hm := Kd.C_max hr
  have HR := Aside0.mk hr; clear hr
  by_cases h : (300 : Int) < (l.length : Int)
  · go_enter Try.func12, Try.ntmps12
    go_wp2_with (first | (go_at_call 33; with_reducible refine (HAW.out _).mono ?_; rintro e w1 ⟨rfl, hb1⟩; have n_ := Aside0.mk (Arr.below_trans HB.out hb1); clear HB; have HB := n_; clear n_ hb1))
    go_ret
    exact ⟨rfl, HB.out⟩
  · have hV : ∀ w1 : World, Kd.C kf w1 A0 l.length l → Calls Try.prog 41 #[.slice A0 l.length c0] w1 (Gives (.int .i64 (vict l l.length)) w1) := fun w1 q => vict_calls A0 c0 l w1 q
    have hV2 : ∀ w1 : World, Kd.C kf w1 A0 l.length l → Calls Try.prog 42 #[.slice A0 l.length c0] w1 (Gives (.int .i64 (vict l l.length)) w1) := fun w1 q => rvict_calls A0 c0 l w1 q
    have hrg := vict_range l l.length
    have hls := vict_least l l.length
    by_cases hz : l.length = 0
    · have z0 : ((l.length : Int) == 0) = true := by simp [hz]
      have hv := hrg.1 hz
      have hv0 : vict l l.length < 0 := by omega
      have hlt0 : ¬ (0 : Int) < (l.length : Int) := by omega
      have x0 := int_ne (vict l l.length)
      generalize vict l l.length = v at *
      have HV := Aside0.mk hV; have HV2 := Aside0.mk hV2
      have HZ := Aside0.mk hz
      clear hV hV2 hrg hls hv hz
      go_enter Try.func12, Try.ntmps12
      go_upto_region 7 with (first | (go_at_call 33; with_reducible refine (HAW.out _).mono ?_; rintro e w1 ⟨rfl, hb1⟩; have n_ := Aside0.mk (Arr.below_trans HB.out hb1); clear HB; have HB := n_; clear n_ hb1) | (go_at_call 41; with_reducible refine (HV.out _ (Kd.C_below HR.out HB.out)).mono ?_; rintro e w1 ⟨rfl, hb1⟩; have n_ := Aside0.mk (Arr.below_trans HB.out hb1); clear HB; have HB := n_; clear n_ hb1) | (go_at_call 42; with_reducible refine (HV2.out _ (Kd.C_below HR.out HB.out)).mono ?_; rintro e w1 ⟨rfl, hb1⟩; have n_ := Aside0.mk (Arr.below_trans HB.out hb1); clear HB; have HB := n_; clear n_ hb1))
      go_loopw [30] (fun i wr => i = .int .i64 0 ∧ Aside0 (Below w.heap.size w wr)) (fun i _ => 0)
      case atStart => exact ⟨rfl, HB⟩
      case round =>
        clear HB
        obtain ⟨rfl, HB⟩ := hrel
        go_wp2
        go_ret
        exact ⟨rfl, HB.out⟩
    · have z0 : ((l.length : Int) == 0) = false := by simpa using hz
      obtain ⟨p1, p2⟩ := hrg.2 (by omega)
      obtain ⟨m, hmv⟩ : ∃ m : Nat, vict l l.length = (m : Int) := ⟨(vict l l.length).toNat, by omega⟩
      rw [hmv] at p1 p2 hls hV hV2
      simp only [Int.toNat_natCast] at hls
      have hml : m < l.length := by omega
      have x0 := int_ne (m : Int)
      have hv0 : ¬ (m : Int) < 0 := by omega
      have HV := Aside0.mk hV; have HV2 := Aside0.mk hV2; have HLS := Aside0.mk hls
      clear hV hV2 hrg hls hmv hz
      go_enter Try.func12, Try.ntmps12
      go_upto_region 7 with (first | (go_at_call 33; with_reducible refine (HAW.out _).mono ?_; rintro e w1 ⟨rfl, hb1⟩; have n_ := Aside0.mk (Arr.below_trans HB.out hb1); clear HB; have HB := n_; clear n_ hb1) | (go_at_call 41; with_reducible refine (HV.out _ (Kd.C_below HR.out HB.out)).mono ?_; rintro e w1 ⟨rfl, hb1⟩; have n_ := Aside0.mk (Arr.below_trans HB.out hb1); clear HB; have HB := n_; clear n_ hb1) | (go_at_call 42; with_reducible refine (HV2.out _ (Kd.C_below HR.out HB.out)).mono ?_; rintro e w1 ⟨rfl, hb1⟩; have n_ := Aside0.mk (Arr.below_trans HB.out hb1); clear HB; have HB := n_; clear n_ hb1))
      go_loopw [4, 5, 30] (fun _ _ i wr => ∃ k : Nat, i = .int .i64 k ∧ Aside0 (k ≤ l.length) ∧ Aside0 (Below w.heap.size w wr)) (fun _ _ i _ => l.length - (intOf i).toNat)
      case atStart => exact ⟨0, rfl, ⟨by omega⟩, HB⟩
      case round =>
        clear HB
        obtain ⟨k, rfl, K, HB⟩ := hrel
        by_cases hlt : (k : Int) < (l.length : Int)
        · have hk : k < l.length := by omega
          have h0 : (0 : Int) ≤ (k : Int) := by omega
          obtain ⟨ad, rfl, hc⟩ := f_at HR.out k hk
          obtain ⟨ad', e, hc2⟩ := f_at HR.out m hml
          cases e
          replace hc := pw_cell_below HB.out hc
          replace hc2 := pw_cell_below HB.out hc2
          rw [at_eq l k hk] at hc
          rw [at_eq l m hml] at hc2
          have hwk : wrap64 ((k : Int) + 1) = ((k + 1 : Nat) : Int) := by unfold wrap64; omega
          have hno := HLS.out k hk
          have hor := ord_lt (at_ l k) (at_ l m)
          have hoz := ord_zero (at_ l k) (at_ l m)
          have HO := Aside0.mk (rorder_calls (at_ l k) (at_ l m) (at_lt l k) (at_lt l m))
          have hno1 : ¬ ordF (at_ l k) (at_ l m) < 0 := fun q => by have := hor.1 q; omega
          have hno2 : ordF (at_ l k) (at_ l m) = 0 → ¬ (k : Int) < (m : Int) := fun q => by have := hno.2 (hoz.1 q); omega
          clear hno hor hoz
          go_upto_region 9 with (fail)
          have hc' : wr.drew.cell? (ad.add k) = some (.float .f64 (at_ l k)) := hc
          have hc2' : wr.drew.cell? (ad.add m) = some (.float .f64 (at_ l m)) := hc2
          have HBD := Aside0.mk HB.out.drew
          clear hc hc2 HB
          generalize at_ l k = x at *
          generalize at_ l m = y at *
          generalize ordF x y = o at *
          refine start_ (n := 10) (S := fun w' => w'.cell? (ad.add k) = some (.float .f64 x) ∧ w'.cell? (ad.add m) = some (.float .f64 y)) (ds := []) #[false, false, false, false, false, false, false, false, false, false] (by kernel_rfl) rfl rfl ⟨hc', hc2'⟩ (fun hHeld => ?_)
          refine pure_ (i := 0) (N := some 33) (v := ?_) (a' := ?_) #[true, false, false, false, false, false, false, false, false, false] rfl rfl (by kernel_rfl) (fun _ _ _ h => h) (Or.inl ⟨by kernel_rfl, ?_⟩) ?_ ?_
          rotate_left
          · intro w'
            go_simp
            with_reducible rfl
          rotate_left
          · simp only [Act.put, List.setIfInBounds_toArray, List.set_cons_zero, List.set_cons_succ, i64_w, i32_w]
            rfl
          refine pure_ (i := 1) (N := some 34) (v := ?_) (a' := ?_) #[true, true, false, false, false, false, false, false, false, false] rfl rfl (by kernel_rfl) (fun _ _ _ h => h) (Or.inl ⟨by kernel_rfl, ?_⟩) ?_ ?_
          rotate_left
          · intro w'
            go_simp
            with_reducible rfl
          rotate_left
          · simp only [Act.put, List.setIfInBounds_toArray, List.set_cons_zero, List.set_cons_succ, i64_w, i32_w]
            rfl
          refine pure_ (i := 2) (N := some 35) (v := ?_) (a' := ?_) #[true, true, true, false, false, false, false, false, false, false] rfl rfl (by kernel_rfl) (fun _ _ _ h => h) (Or.inl ⟨by kernel_rfl, ?_⟩) ?_ ?_
          rotate_left
          · intro w'
            go_simp
            with_reducible rfl
          rotate_left
          · simp only [Act.put, List.setIfInBounds_toArray, List.set_cons_zero, List.set_cons_succ, i64_w, i32_w]
            rfl
          refine pure_ (i := 4) (N := some 37) (v := ?_) (a' := ?_) #[true, true, true, false, true, false, false, false, false, false] rfl rfl (by kernel_rfl) (fun _ _ _ h => h) (Or.inl ⟨by kernel_rfl, ?_⟩) ?_ ?_
          rotate_left
          · intro w'
            go_simp
            with_reducible rfl
          rotate_left
          · simp only [Act.put, List.setIfInBounds_toArray, List.set_cons_zero, List.set_cons_succ, i64_w, i32_w]
            rfl
          refine pure_ (i := 5) (N := some 38) (v := ?_) (a' := ?_) #[true, true, true, false, true, true, false, false, false, false] rfl rfl (by kernel_rfl) (fun _ _ _ h => h) (Or.inl ⟨by kernel_rfl, ?_⟩) ?_ ?_
          rotate_left
          · intro w'
            go_simp
            with_reducible rfl
          rotate_left
          · simp only [Act.put, List.setIfInBounds_toArray, List.set_cons_zero, List.set_cons_succ, i64_w, i32_w]
            rfl
          refine pure_ (i := 6) (N := some 39) (v := ?_) (a' := ?_) #[true, true, true, false, true, true, true, false, false, false] rfl rfl (by kernel_rfl) (fun _ _ _ h => h) (Or.inl ⟨by kernel_rfl, ?_⟩) ?_ ?_
          rotate_left
          · intro w'
            go_simp
            with_reducible rfl
          rotate_left
          · simp only [Act.put, List.setIfInBounds_toArray, List.set_cons_zero, List.set_cons_succ, i64_w, i32_w]
            rfl
          refine take_ (i := 3) (N := some 36) (v := ?_) (a' := ?_) #[true, true, true, true, true, true, true, false, false, false] rfl rfl (by kernel_rfl) (fun _ _ _ h => h) (Or.inl ⟨by kernel_rfl, ?_⟩) hHeld ?_ ?_
          rotate_left
          · rintro w' ⟨s0_, s1_⟩
            go_simp
            with_reducible rfl
          rotate_left
          · simp only [Act.put, List.setIfInBounds_toArray, List.set_cons_zero, List.set_cons_succ, i64_w, i32_w]
            rfl
          refine take_ (i := 7) (N := some 40) (v := ?_) (a' := ?_) #[true, true, true, true, true, true, true, true, false, false] rfl rfl (by kernel_rfl) (fun _ _ _ h => h) (Or.inl ⟨by kernel_rfl, ?_⟩) hHeld ?_ ?_
          rotate_left
          · rintro w' ⟨s0_, s1_⟩
            go_simp
            with_reducible rfl
          rotate_left
          · simp only [Act.put, List.setIfInBounds_toArray, List.set_cons_zero, List.set_cons_succ, i64_w, i32_w]
            rfl
          refine one_ (i := 8) (N := some 41) #[true, true, true, true, true, true, true, true, true, false] rfl rfl (by kernel_rfl) (by decide) (fun K hK => ?_)
          refine goes_ Try.func26 (by kernel_rfl) rfl #[.float .f64 x, .float .f64 y] (by rfl) rfl rfl (by (try simp only [List.map_toArray, List.map_cons, List.map_nil]); first | done | rfl) ?_
          refine (HO.out wr.drew).mono ?_
          rintro e w2 ⟨rfl, hb2⟩
          refine ⟨_, rfl, ?_⟩
          have HX2 := Aside0.mk (Arr.below_trans HBD.out hb2)
          refine hK _ _ ⟨pw_cell_below hb2 hc', pw_cell_below hb2 hc2'⟩ (fun _ => ?_)
          clear hK K hb2
          refine norm_ (a' := ?_) ?_ ?_
          rotate_left
          · show Act.put _ (some 41) _ = _
            simp only [Act.put, List.setIfInBounds_toArray, List.set_cons_zero, List.set_cons_succ, i64_w, i32_w]
            rfl
          refine pure_ (i := 9) (N := some 5) (v := ?_) (a' := ?_) #[true, true, true, true, true, true, true, true, true, true] rfl rfl (by kernel_rfl) (fun _ _ _ h => h) (Or.inl ⟨by kernel_rfl, ?_⟩) ?_ ?_
          rotate_left
          · intro w'
            go_simp
            with_reducible rfl
          rotate_left
          · simp only [Act.put, List.setIfInBounds_toArray, List.set_cons_zero, List.set_cons_succ, i64_w, i32_w]
            rfl
          refine done_ (by kernel_rfl) ?_
          clear hHeld hc' hc2' HBD
          have hd1 : decide (o < 0) = false := decide_eq_false hno1
          by_cases hz2 : o = 0
          · have hd2 : (o == 0) = true := by simp [hz2]
            have hd3 : decide ((k : Int) < (m : Int)) = false := decide_eq_false (hno2 hz2)
            have hd4 := hno2 hz2
            clear hno2 hz2
            go_wp2
            go_roundw
            case rel => exact ⟨k + 1, by first | rw [hwk] | go_num, ⟨by omega⟩, HX2⟩
            case measure =>
              try rw [hwk]
              simp [intOf]; omega
          · have hd2 : (o == 0) = false := by simpa using hz2
            clear hno2
            go_wp2
            go_roundw
            case rel => exact ⟨k + 1, by first | rw [hwk] | go_num, ⟨by omega⟩, HX2⟩
            case measure =>
              try rw [hwk]
              simp [intOf]; omega
        · obtain rfl : k = l.length := by have := K.out; omega
          clear hlt
          go_wp2
          go_ret
          exact ⟨rfl, HB.out⟩
def careenlaw19_PolicyVictim.f (l0 : List UInt64) : Option Bool := some true
theorem careenlaw19_PolicyVictim.calls (A0 : Option Addr) (c0 : Nat) (l0 : List UInt64) (r : Bool) (w : World) (hr0 : Kd.C kf w A0 l0.length l0) (hc0 : l0.length ≤ c0) (h : careenlaw19_PolicyVictim.f l0 = some r) :
    Calls Try.prog 12 #[.slice A0 l0.length c0] w fun e w' => e = .returned (.bool r) ∧ Below w.heap.size w w' := by
  obtain rfl := Option.some.inj h
  exact victim_walk A0 c0 l0 w hr0
end Go.Proofs.Ytnhlfafdldpdgaa.X19
