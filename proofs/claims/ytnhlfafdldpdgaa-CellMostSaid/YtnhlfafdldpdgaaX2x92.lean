import Derived.Test.YtnhlfafdldpdgaaX2x91
/-! Layer 2: the walks of the laws. -/
namespace Go.Proofs.Ytnhlfafdldpdgaa.X2
open Go Go.RowKit Go.Proofs.Ytnhlfafdldpdgaa.Arr Go.Proofs.Ytnhlfafdldpdgaa.Flt Go.Proofs.Ytnhlfafdldpdgaa.Cell Go.Proofs.YtnhlfafdldpdgaaW.PrintWords Go.Proofs.YtnhlfafdldpdgaaW.PrintLast Go.Proofs.YtnhlfafdldpdgaaW.PrintMore
set_option linter.unusedVariables false
set_option linter.unusedSimpArgs false
attribute [local go_sem] run_bits run_frombits
theorem size8 (n : Nat) : (by8 n).size = 8 := rfl
theorem unary_negf (b : Nat) : Op.unary .neg (.float .f64 b) = pure (.float .f64 (Op.negFloat .f64 b)) := rfl
attribute [local go_sem] unary_negf
theorem twice_walk (a b : Int) (ha : a.natAbs < 4294967296) (hb : b.natAbs < 4294967296) (w : World) : Calls Try.prog 7 #[.int .i32 a, .int .i32 b] w (Gives (.bool true) w) := by
  have HB := Aside0.mk (Below.refl w.heap.size w)
  have HAW := Aside0.mk awake_go
  have hX := bytes_calls (fi a) (fi_lt a); have hY := bytes_calls (fi b) (fi_lt b)
  rw [cn_num (fi_nan a)] at hX; rw [cn_num (fi_nan b)] at hY
  have hA1 := add_calls (by8 (fi a)) (fi b); have hA2 := add_calls (by8 (fi b)) (fi a)
  simp only [if_pos (size8 _)] at hA1 hA2
  rw [addS_by8 _ _ (fi_lt a)] at hA1; rw [addS_by8 _ _ (fi_lt b), vop_comm] at hA2
  have hA3 := add_calls (by8 (vop .add (fi a) (fi b))) (Op.negFloat .f64 (fi b))
  simp only [if_pos (size8 _)] at hA3
  rw [addS_by8 _ _ (vop_lt _ _ _)] at hA3
  have y0 := str_eq (by8 (vop .add (fi a) (fi b)))
  have y1 := str_eq (by8 (fi a))
  have hw : a ≠ 0 → vop .add (vop .add (fi a) (fi b)) (Op.negFloat .f64 (fi b)) = fi a := fun h0 => twice a b ha hb h0
  have hz : a = 0 → fi a = 0 := fun h => by rw [h]; exact fi_zero
  generalize hx : fi a = x at *
  generalize hy : fi b = y at *
  have hx2 : floatOfInt .f64 a = x := hx
  have hy2 : floatOfInt .f64 b = y := hy
  clear hx hy
  by_cases h0 : a = 0
  · have hx0 := hz h0
    subst hx0
    have q0 : (FloatKind.f64.format.order 0 0 == some .eq) = true := by decide +kernel
    have HX := Aside0.mk hX; have HY := Aside0.mk hY; have HA1 := Aside0.mk hA1; have HA2 := Aside0.mk hA2; have HA3 := Aside0.mk hA3
    clear hX hY hA1 hA2 hA3 hw hz h0
    go_enter Try.func7, Try.ntmps7
    go_wp2_with (first | (go_at_call 17; with_reducible refine (HAW.out _).mono ?_; rintro e w1 ⟨rfl, hb1⟩; have n_ := Aside0.mk (Arr.below_trans HB.out hb1); clear HB; have HB := n_; clear n_ hb1) | (go_at_call 19; (first | with_reducible refine (HX.out _).mono ?_ | with_reducible refine (HY.out _).mono ?_); rintro e w1 ⟨rfl, hb1⟩; have n_ := Aside0.mk (Arr.below_trans HB.out hb1); clear HB; have HB := n_; clear n_ hb1) | (go_at_call 24; (first | with_reducible refine (HA1.out _).mono ?_ | with_reducible refine (HA2.out _).mono ?_ | with_reducible refine (HA3.out _).mono ?_); rintro e w1 ⟨rfl, hb1⟩; have n_ := Aside0.mk (Arr.below_trans HB.out hb1); clear HB; have HB := n_; clear n_ hb1))
    all_goals (go_ret; exact ⟨rfl, HB.out⟩)
  · rw [hw h0] at hA3
    have HX := Aside0.mk hX; have HY := Aside0.mk hY; have HA1 := Aside0.mk hA1; have HA2 := Aside0.mk hA2; have HA3 := Aside0.mk hA3
    clear hX hY hA1 hA2 hA3 h0 hw hz
    go_enter Try.func7, Try.ntmps7
    go_wp2_with (first | (go_at_call 17; with_reducible refine (HAW.out _).mono ?_; rintro e w1 ⟨rfl, hb1⟩; have n_ := Aside0.mk (Arr.below_trans HB.out hb1); clear HB; have HB := n_; clear n_ hb1) | (go_at_call 19; (first | with_reducible refine (HX.out _).mono ?_ | with_reducible refine (HY.out _).mono ?_); rintro e w1 ⟨rfl, hb1⟩; have n_ := Aside0.mk (Arr.below_trans HB.out hb1); clear HB; have HB := n_; clear n_ hb1) | (go_at_call 24; (first | with_reducible refine (HA1.out _).mono ?_ | with_reducible refine (HA2.out _).mono ?_ | with_reducible refine (HA3.out _).mono ?_); rintro e w1 ⟨rfl, hb1⟩; have n_ := Aside0.mk (Arr.below_trans HB.out hb1); clear HB; have HB := n_; clear n_ hb1))
    all_goals (go_ret; exact ⟨rfl, HB.out⟩)
theorem folds_walk (A0 : Option Addr) (c0 : Nat) (l : List UInt64) (w : World) (hr : Kd.C kf w A0 l.length l) : Calls Try.prog 9 #[.slice A0 l.length c0] w (Gives (.bool true) w) := by
  have HB := Aside0.mk (Below.refl w.heap.size w)
  have HAW := Aside0.mk awake_go
  have HR := Aside0.mk hr; clear hr
  have x0 := int_eq (cn (mostL l) : Int); have x1 := int_eq (cn (sumL l) : Int)
  by_cases h : (300 : Int) < (l.length : Int)
  · go_enter Try.func9, Try.ntmps9
    go_wp2_with (first | (go_at_call 17; with_reducible refine (HAW.out _).mono ?_; rintro e w1 ⟨rfl, hb1⟩; have n_ := Aside0.mk (Arr.below_trans HB.out hb1); clear HB; have HB := n_; clear n_ hb1))
    go_ret
    exact ⟨rfl, HB.out⟩
  · go_enter Try.func9, Try.ntmps9
    go_wp2_with (first | (go_at_call 17; with_reducible refine (HAW.out _).mono ?_; rintro e w1 ⟨rfl, hb1⟩; have n_ := Aside0.mk (Arr.below_trans HB.out hb1); clear HB; have HB := n_; clear n_ hb1) | (go_at_call 29; with_reducible refine (most_calls A0 c0 l _ (Kd.C_below HR.out HB.out)).mono ?_; rintro e w1 ⟨rfl, hb1⟩; have n_ := Aside0.mk (Arr.below_trans HB.out hb1); clear HB; have HB := n_; clear n_ hb1) | (go_at_call 30; with_reducible refine (rmost_calls A0 c0 l _ (Kd.C_below HR.out HB.out)).mono ?_; rintro e w1 ⟨rfl, hb1⟩; have n_ := Aside0.mk (Arr.below_trans HB.out hb1); clear HB; have HB := n_; clear n_ hb1) | (go_at_call 28; with_reducible refine (sum_calls A0 c0 l _ (Kd.C_below HR.out HB.out)).mono ?_; rintro e w1 ⟨rfl, hb1⟩; have n_ := Aside0.mk (Arr.below_trans HB.out hb1); clear HB; have HB := n_; clear n_ hb1) | (go_at_call 31; with_reducible refine (rsum_calls A0 c0 l _ (Kd.C_below HR.out HB.out)).mono ?_; rintro e w1 ⟨rfl, hb1⟩; have n_ := Aside0.mk (Arr.below_trans HB.out hb1); clear HB; have HB := n_; clear n_ hb1))
    go_ret
    exact ⟨rfl, HB.out⟩
def careenlaw02_CellFolds.f (l0 : List UInt64) : Option Bool := some true
theorem careenlaw02_CellFolds.calls (A0 : Option Addr) (c0 : Nat) (l0 : List UInt64) (r : Bool) (w : World) (hr0 : Kd.C kf w A0 l0.length l0) (hc0 : l0.length ≤ c0) (h : careenlaw02_CellFolds.f l0 = some r) :
    Calls Try.prog 9 #[.slice A0 l0.length c0] w fun e w' => e = .returned (.bool r) ∧ Below w.heap.size w w' := by
  obtain rfl := Option.some.inj h
  exact folds_walk A0 c0 l0 w hr0
theorem i32_abs {x : Int} (h : -2147483648 ≤ x ∧ x < 2147483648) : x.natAbs < 4294967296 := by omega
def careenlaw02_CellTwice.f (a0 a1 : Int) : Option Bool := if (-2147483648 ≤ a0 ∧ a0 < 2147483648) ∧ (-2147483648 ≤ a1 ∧ a1 < 2147483648) then some true else none
theorem careenlaw02_CellTwice.calls (a0 a1 : Int) (r : Bool) (w : World) (h : careenlaw02_CellTwice.f a0 a1 = some r) :
    Calls Try.prog 7 #[.int .i32 a0, .int .i32 a1] w fun e w' => e = .returned (.bool r) ∧ Below w.heap.size w w' := by
  unfold careenlaw02_CellTwice.f at h
  by_cases hf : (-2147483648 ≤ a0 ∧ a0 < 2147483648) ∧ (-2147483648 ≤ a1 ∧ a1 < 2147483648)
  · rw [if_pos hf] at h
    obtain rfl := Option.some.inj h
    exact twice_walk a0 a1 (i32_abs hf.1) (i32_abs hf.2) w
  · rw [if_neg hf] at h; cases h
theorem most_walk (A0 : Option Addr) (c0 : Nat) (l : List UInt64) (w : World) (hr : Kd.C kf w A0 l.length l) : Calls Try.prog 10 #[.slice A0 l.length c0] w (Gives (.bool true) w) := by
  have HB := Aside0.mk (Below.refl w.heap.size w)
  have HAW := Aside0.mk awake_go
  have hm := Kd.C_max hr
  have HR := Aside0.mk hr; clear hr
  by_cases h : (300 : Int) < (l.length : Int)
  · go_enter Try.func10, Try.ntmps10
    go_wp2_with (first | (go_at_call 17; with_reducible refine (HAW.out _).mono ?_; rintro e w1 ⟨rfl, hb1⟩; have n_ := Aside0.mk (Arr.below_trans HB.out hb1); clear HB; have HB := n_; clear n_ hb1))
    go_ret
    exact ⟨rfl, HB.out⟩
  · have hone := most_one l
    have hnone := most_none l
    have hM : ∀ w1 : World, Kd.C kf w1 A0 l.length l → Calls Try.prog 29 #[.slice A0 l.length c0] w1 (Gives (.float .f64 (cn (mostL l))) w1) := fun w1 h => most_calls A0 c0 l w1 h
    have hl := cn_lt (mostL_lt l)
    have hcc : cn (cn (mostL l)) = cn (mostL l) := cn_cn _
    generalize cn (mostL l) = m at *
    have hB1 := rbits_calls m
    rw [hcc] at hB1
    have HB1 := Aside0.mk hB1; have HB2 := Aside0.mk (show ∀ w : World, Calls Try.prog 21 #[.float .f64 (infB (-1))] w (Gives (.int .u64 18442240474082181120) w) from fun w => rbits_calls (infB (-1)) w)
    have HI := Aside0.mk (inf_calls (-1))
    have HM := Aside0.mk hM; have HN := Aside0.mk hnone; have HL := Aside0.mk hl; have HONE := Aside0.mk hone
    clear hB1 hM hnone hone hl hcc
    go_enter Try.func10, Try.ntmps10
    go_upto_region 4 with (first | (go_at_call 17; with_reducible refine (HAW.out _).mono ?_; rintro e w1 ⟨rfl, hb1⟩; have n_ := Aside0.mk (Arr.below_trans HB.out hb1); clear HB; have HB := n_; clear n_ hb1) | (go_at_call 29; with_reducible refine (HM.out _ (Kd.C_below HR.out HB.out)).mono ?_; rintro e w1 ⟨rfl, hb1⟩; have n_ := Aside0.mk (Arr.below_trans HB.out hb1); clear HB; have HB := n_; clear n_ hb1))
    have FF : ∃ f0 : Bool, ((l.length : Int) == 0 || ((m : Int) == 18442240474082181120)) = f0 ∧ Aside0 (f0 = true ∨ ∃ f ∈ l.drop 0, ordF f.toNat m = 0) := by
      refine ⟨_, rfl, ⟨?_⟩⟩
      rw [List.drop_zero]
      rcases HONE.out with q | q
      · left
        rw [q]
        simp
      · exact Or.inr q
    obtain ⟨f0, hf0, HF0⟩ := FF
    cases hl0 : ((l.length : Int) == 0) with
    | true =>
      rw [hl0, Bool.true_or] at hf0
      subst hf0
      go_upto_region 6 with (fail)
      try clear hf0
      clear hl0
      go_loopw [4, 29] (fun v i wr => ∃ (k : Nat) (b : Bool), i = .int .i64 k ∧ v = .bool b ∧ Aside0 (k ≤ l.length) ∧ Aside0 (b = true ∨ ∃ f ∈ l.drop k, ordF f.toNat m = 0) ∧ Aside0 (Below w.heap.size w wr)) (fun _ i _ => l.length - (intOf i).toNat)
      case atStart => exact ⟨0, true, rfl, rfl, ⟨by omega⟩, by first | exact HF0 | exact ⟨Or.inl rfl⟩, HB⟩
      case round =>
        clear HB HF0
        obtain ⟨k, b, rfl, rfl, K, HF, HB⟩ := hrel
        by_cases hlt : (k : Int) < (l.length : Int)
        · have hk : k < l.length := by omega
          have h0 : (0 : Int) ≤ (k : Int) := by omega
          obtain ⟨ad, rfl, hc⟩ := f_at HR.out k hk
          replace hc := pw_cell_below HB.out hc
          have hwk : wrap64 ((k : Int) + 1) = ((k + 1 : Nat) : Int) := by unfold wrap64; omega
          have hno := HN.out l[k] (List.getElem_mem hk)
          have HO := Aside0.mk (order_calls l[k].toNat m l[k].toNat_lt HL.out)
          have hdr : b = true ∨ ordF l[k].toNat m = 0 ∨ ∃ f ∈ l.drop (k + 1), ordF f.toNat m = 0 := by
            rcases HF.out with q | ⟨f, hf, q⟩
            · exact Or.inl q
            · rw [List.drop_eq_getElem_cons hk] at hf
              rcases List.mem_cons.1 hf with rfl | hf
              · exact Or.inr (Or.inl q)
              · exact Or.inr (Or.inr ⟨f, hf, q⟩)
          have HD := Aside0.mk hdr; clear hdr HF
          generalize hf : ordF l[k].toNat m = o at *
          have hno2 : ¬ (0 : Int) < o := by omega
          cases b with
          | true =>
            go_wp2_with (first | (go_at_call 25; with_reducible refine (HO.out _).mono ?_; rintro e w1 ⟨rfl, hb1⟩; have n_ := Aside0.mk (Arr.below_trans HB.out hb1); replace hc := pw_cell_below hb1 hc; clear HB; have HB := n_; clear n_ hb1))
            go_roundw
            case rel => exact ⟨k + 1, true, by first | rw [hwk] | go_num, rfl, ⟨by omega⟩, ⟨Or.inl rfl⟩, HB⟩
            case measure =>
              try rw [hwk]
              simp [intOf]; omega
          | false =>
            have HE : Aside0 ((o == 0) = true ∨ ∃ f ∈ l.drop (k + 1), ordF f.toNat m = 0) := by
              rcases HD.out with q | q | q
              · cases q
              · exact ⟨Or.inl (beq_iff_eq.2 q)⟩
              · exact ⟨Or.inr q⟩
            go_wp2_with (first | (go_at_call 25; with_reducible refine (HO.out _).mono ?_; rintro e w1 ⟨rfl, hb1⟩; have n_ := Aside0.mk (Arr.below_trans HB.out hb1); replace hc := pw_cell_below hb1 hc; clear HB; have HB := n_; clear n_ hb1))
            go_roundw
            case rel => exact ⟨k + 1, (o == 0), by first | rw [hwk] | go_num, rfl, ⟨by omega⟩, HE, HB⟩
            case measure =>
              try rw [hwk]
              simp [intOf]; omega
        · obtain rfl : k = l.length := by have := K.out; omega
          have hb : b = true := by
            rcases HF.out with q | ⟨f, hf, q⟩
            · exact q
            · rw [List.drop_length] at hf; cases hf
          subst hb
          clear hlt
          go_wp2
          go_ret
          exact ⟨rfl, HB.out⟩
    | false =>
      rw [hl0, Bool.false_or] at hf0
      go_upto_region 6 with (first | (go_at_call 21; (first | with_reducible refine (HB1.out _).mono ?_ | with_reducible refine (HB2.out _).mono ?_); rintro e w1 ⟨rfl, hb1⟩; have n_ := Aside0.mk (Arr.below_trans HB.out hb1); clear HB; have HB := n_; clear n_ hb1) | (go_at_call 32; with_reducible refine (HI.out _).mono ?_; rintro e w1 ⟨rfl, hb1⟩; have n_ := Aside0.mk (Arr.below_trans HB.out hb1); clear HB; have HB := n_; clear n_ hb1))
      try clear hf0
      clear hl0
      go_loopw [4, 29] (fun v i wr => ∃ (k : Nat) (b : Bool), i = .int .i64 k ∧ v = .bool b ∧ Aside0 (k ≤ l.length) ∧ Aside0 (b = true ∨ ∃ f ∈ l.drop k, ordF f.toNat m = 0) ∧ Aside0 (Below w.heap.size w wr)) (fun _ i _ => l.length - (intOf i).toNat)
      case atStart => exact ⟨0, f0, rfl, rfl, ⟨by omega⟩, by first | exact HF0 | exact ⟨Or.inl rfl⟩, HB⟩
      case round =>
        clear HB HF0
        obtain ⟨k, b, rfl, rfl, K, HF, HB⟩ := hrel
        by_cases hlt : (k : Int) < (l.length : Int)
        · have hk : k < l.length := by omega
          have h0 : (0 : Int) ≤ (k : Int) := by omega
          obtain ⟨ad, rfl, hc⟩ := f_at HR.out k hk
          replace hc := pw_cell_below HB.out hc
          have hwk : wrap64 ((k : Int) + 1) = ((k + 1 : Nat) : Int) := by unfold wrap64; omega
          have hno := HN.out l[k] (List.getElem_mem hk)
          have HO := Aside0.mk (order_calls l[k].toNat m l[k].toNat_lt HL.out)
          have hdr : b = true ∨ ordF l[k].toNat m = 0 ∨ ∃ f ∈ l.drop (k + 1), ordF f.toNat m = 0 := by
            rcases HF.out with q | ⟨f, hf, q⟩
            · exact Or.inl q
            · rw [List.drop_eq_getElem_cons hk] at hf
              rcases List.mem_cons.1 hf with rfl | hf
              · exact Or.inr (Or.inl q)
              · exact Or.inr (Or.inr ⟨f, hf, q⟩)
          have HD := Aside0.mk hdr; clear hdr HF
          generalize hf : ordF l[k].toNat m = o at *
          have hno2 : ¬ (0 : Int) < o := by omega
          cases b with
          | true =>
            go_wp2_with (first | (go_at_call 25; with_reducible refine (HO.out _).mono ?_; rintro e w1 ⟨rfl, hb1⟩; have n_ := Aside0.mk (Arr.below_trans HB.out hb1); replace hc := pw_cell_below hb1 hc; clear HB; have HB := n_; clear n_ hb1))
            go_roundw
            case rel => exact ⟨k + 1, true, by first | rw [hwk] | go_num, rfl, ⟨by omega⟩, ⟨Or.inl rfl⟩, HB⟩
            case measure =>
              try rw [hwk]
              simp [intOf]; omega
          | false =>
            have HE : Aside0 ((o == 0) = true ∨ ∃ f ∈ l.drop (k + 1), ordF f.toNat m = 0) := by
              rcases HD.out with q | q | q
              · cases q
              · exact ⟨Or.inl (beq_iff_eq.2 q)⟩
              · exact ⟨Or.inr q⟩
            go_wp2_with (first | (go_at_call 25; with_reducible refine (HO.out _).mono ?_; rintro e w1 ⟨rfl, hb1⟩; have n_ := Aside0.mk (Arr.below_trans HB.out hb1); replace hc := pw_cell_below hb1 hc; clear HB; have HB := n_; clear n_ hb1))
            go_roundw
            case rel => exact ⟨k + 1, (o == 0), by first | rw [hwk] | go_num, rfl, ⟨by omega⟩, HE, HB⟩
            case measure =>
              try rw [hwk]
              simp [intOf]; omega
        · obtain rfl : k = l.length := by have := K.out; omega
          have hb : b = true := by
            rcases HF.out with q | ⟨f, hf, q⟩
            · exact q
            · rw [List.drop_length] at hf; cases hf
          subst hb
          clear hlt
          go_wp2
          go_ret
          exact ⟨rfl, HB.out⟩
def careenlaw02_CellMost.f (l0 : List UInt64) : Option Bool := some true
theorem careenlaw02_CellMost.calls (A0 : Option Addr) (c0 : Nat) (l0 : List UInt64) (r : Bool) (w : World) (hr0 : Kd.C kf w A0 l0.length l0) (hc0 : l0.length ≤ c0) (h : careenlaw02_CellMost.f l0 = some r) :
    Calls Try.prog 10 #[.slice A0 l0.length c0] w fun e w' => e = .returned (.bool r) ∧ Below w.heap.size w w' := by
  obtain rfl := Option.some.inj h
  exact most_walk A0 c0 l0 w hr0
theorem row_walk (A0 : Option Addr) (c0 : Nat) (l : List UInt64) (w : World) (hr : Kd.C kf w A0 l.length l) (hc0 : l.length ≤ c0) : Calls Try.prog 8 #[.slice A0 l.length c0] w (Gives (.bool true) w) := by
  have HB := Aside0.mk (Below.refl w.heap.size w)
  have HAW := Aside0.mk awake_go
  have hm := Kd.C_max hr
  have HR := Aside0.mk hr; clear hr
  by_cases hz : l.length = 0
  · have z0 : ((l.length : Int) == 0) = true := by simp [hz]
    clear hz
    go_enter Try.func8, Try.ntmps8
    go_wp2_with (first | (go_at_call 17; with_reducible refine (HAW.out _).mono ?_; rintro e w1 ⟨rfl, hb1⟩; have n_ := Aside0.mk (Arr.below_trans HB.out hb1); clear HB; have HB := n_; clear n_ hb1))
    go_ret
    exact ⟨rfl, HB.out⟩
  · have z0 : ((l.length : Int) == 0) = false := by simpa using (by omega : ¬ l.length = 0)
    by_cases h : (300 : Int) < (l.length : Int)
    · clear hz
      go_enter Try.func8, Try.ntmps8
      go_wp2_with (first | (go_at_call 17; with_reducible refine (HAW.out _).mono ?_; rintro e w1 ⟨rfl, hb1⟩; have n_ := Aside0.mk (Arr.below_trans HB.out hb1); clear HB; have HB := n_; clear n_ hb1))
      go_ret
      exact ⟨rfl, HB.out⟩
    · obtain ⟨m, hlm⟩ : ∃ m : Nat, l.length = m + 1 := ⟨l.length - 1, by omega⟩
      have hml : m < l.length := by omega
      have hwl : wrap64 ((l.length : Int) - 1) = (m : Int) := by unfold wrap64; omega
      have hm0 : (0 : Int) ≤ (m : Int) := by omega
      have hm1 : (m : Int) < (l.length : Int) := by omega
      have hm2 : (m : Int) ≤ (c0 : Int) := by omega
      have HLM := Aside0.mk hlm; clear hz hlm
      go_enter Try.func8, Try.ntmps8
      go_upto_region 4 with (first | (go_at_call 17; with_reducible refine (HAW.out _).mono ?_; rintro e w1 ⟨rfl, hb1⟩; have n_ := Aside0.mk (Arr.below_trans HB.out hb1); clear HB; have HB := n_; clear n_ hb1))
      have hr1 := Kd.C_below HR.out HB.out
      obtain ⟨ad, rfl, hc⟩ := f_at hr1 m hml
      have hrt := Kd.C_take (m := m) hr1 (Nat.le_of_lt hml)
      have hlt : (l.take m).length = m := by rw [List.length_take]; omega
      have hsub : (l.length : Int) - 1 = (m : Int) := by have := HLM.out; omega
      rw [hsub]
      have hrs : Kd.C kf w1.drew (some ad) (l.take m).length (l.take m) := Kd.C_drew hrt
      have hS := sum_calls (some ad) c0 (l.take m) w1.drew hrs
      have hsl := sumL_take l m hml
      rw [show m + 1 = l.length from HLM.out.symm, List.take_length] at hsl
      have hcs : cn (sumL l) = sumL l := by rw [hsl]; exact cn_vop _ _ _
      rw [hlt] at hS
      have hL := l[m].toNat_lt
      have hcv : vop .add (cn (sumL (l.take m))) l[m].toNat = sumL l := by rw [hsl]; exact vop_l (cn_cn _) _
      have hB := bytes_calls (cn (sumL (l.take m)))
      rw [cn_cn] at hB
      have hlt2 : cn (sumL (l.take m)) < 18446744073709551616 := by
        cases hq : l.take m with
        | nil => decide
        | cons a r =>
          have : sumL (a :: r) < 18446744073709551616 := by
            rcases List.eq_nil_or_concat (a :: r) with e | ⟨r', x, e⟩
            · cases e
            · rw [e, List.concat_eq_append]; unfold sumL; rw [List.foldl_append]; exact vop_lt _ _ _
          exact cn_lt this
      have hlS : sumL l < 18446744073709551616 := by rw [hsl]; exact vop_lt _ _ _
      have hA := add_calls (by8 (cn (sumL (l.take m)))) l[m].toNat
      simp only [if_pos (size8 _)] at hA
      rw [addS_by8 _ _ hlt2, hcv] at hA
      have hS2 : ∀ w2 : World, Kd.C kf w2 (some ad) l.length l → Calls Try.prog 28 #[.slice (some ad) l.length c0] w2 (Gives (.float .f64 (sumL l)) w2) := fun w2 q => by have z := sum_calls (some ad) c0 l w2 q; rwa [hcs] at z
      have hB2 := bytes_calls (sumL l) hlS
      rw [hcs] at hB2
      have HS := Aside0.mk hS; have HBy := Aside0.mk (hB hlt2); have HA := Aside0.mk hA; have HS2 := Aside0.mk hS2; have HB2 := Aside0.mk hB2
      have y0 := str_eq (by8 (sumL l))
      clear hS hB hA hS2 hB2 hsl hcs hL hcv hlt2 hlS hrt hrs hwl hsub hr1
      have hc0' : w1.drew.cell? (ad.add m) = some (.float .f64 l[m].toNat) := hc
      generalize cn (sumL (l.take m)) = p at *
      generalize sumL l = q at *
      generalize l[m].toNat = f at *
      have HBD := Aside0.mk HB.out.drew
      have hbk : ∀ w2 : World, Below w1.drew.heap.size w1.drew w2 → w2.cell? (ad.add m) = some (.float .f64 f) := fun w2 hb => pw_cell_below hb hc0'
      have HBK := Aside0.mk hbk; clear hbk hc hlt
      refine start_ (n := 15) (S := fun w' => w'.cell? (ad.add m) = some (.float .f64 f)) (ds := []) #[false, false, false, false, false, false, false, false, false, false, false, false, false, false, false] (by kernel_rfl) rfl rfl hc0' (fun hHeld => ?_)
      refine pure_ (i := 0) (N := some 23) (v := ?_) (a' := ?_) #[true, false, false, false, false, false, false, false, false, false, false, false, false, false, false] rfl rfl (by kernel_rfl) (fun _ _ _ h => h) (Or.inl ⟨by rfl, ?_⟩) ?_ ?_
      rotate_left
      · intro w'
        go_simp
        with_reducible rfl
      rotate_left
      · simp only [Act.put, List.setIfInBounds_toArray, List.set_cons_zero, List.set_cons_succ, i64_w, i32_w]
        rfl
      refine pure_ (i := 1) (N := some 24) (v := ?_) (a' := ?_) #[true, true, false, false, false, false, false, false, false, false, false, false, false, false, false] rfl rfl (by kernel_rfl) (fun _ _ _ h => h) (Or.inl ⟨by rfl, ?_⟩) ?_ ?_
      rotate_left
      · intro w'
        go_simp
        with_reducible rfl
      rotate_left
      · simp only [Act.put, List.setIfInBounds_toArray, List.set_cons_zero, List.set_cons_succ, i64_w, i32_w]
        rfl
      refine pure_ (i := 2) (N := some 25) (v := ?_) (a' := ?_) #[true, true, true, false, false, false, false, false, false, false, false, false, false, false, false] rfl rfl (by kernel_rfl) (fun _ _ _ h => h) (Or.inl ⟨by rfl, ?_⟩) ?_ ?_
      rotate_left
      · intro w'
        go_simp
        with_reducible rfl
      rotate_left
      · simp only [Act.put, List.setIfInBounds_toArray, List.set_cons_zero, List.set_cons_succ, i64_w, i32_w]
        rfl
      refine pure_ (i := 5) (N := some 28) (v := ?_) (a' := ?_) #[true, true, true, false, false, true, false, false, false, false, false, false, false, false, false] rfl rfl (by kernel_rfl) (fun _ _ _ h => h) (Or.inl ⟨by rfl, ?_⟩) ?_ ?_
      rotate_left
      · intro w'
        go_simp
        with_reducible rfl
      rotate_left
      · simp only [Act.put, List.setIfInBounds_toArray, List.set_cons_zero, List.set_cons_succ, i64_w, i32_w]
        rfl
      refine pure_ (i := 6) (N := some 29) (v := ?_) (a' := ?_) #[true, true, true, false, false, true, true, false, false, false, false, false, false, false, false] rfl rfl (by kernel_rfl) (fun _ _ _ h => h) (Or.inl ⟨by rfl, ?_⟩) ?_ ?_
      rotate_left
      · intro w'
        go_simp
        with_reducible rfl
      rotate_left
      · simp only [Act.put, List.setIfInBounds_toArray, List.set_cons_zero, List.set_cons_succ, i64_w, i32_w]
        rfl
      refine pure_ (i := 7) (N := some 30) (v := ?_) (a' := ?_) #[true, true, true, false, false, true, true, true, false, false, false, false, false, false, false] rfl rfl (by kernel_rfl) (fun _ _ _ h => h) (Or.inl ⟨by rfl, ?_⟩) ?_ ?_
      rotate_left
      · intro w'
        go_simp
        with_reducible rfl
      rotate_left
      · simp only [Act.put, List.setIfInBounds_toArray, List.set_cons_zero, List.set_cons_succ, i64_w, i32_w]
        rfl
      refine take_ (i := 8) (N := some 31) (v := ?_) (a' := ?_) #[true, true, true, false, false, true, true, true, true, false, false, false, false, false, false] rfl rfl (by kernel_rfl) (fun _ _ _ h => h) (Or.inl ⟨by rfl, ?_⟩) hHeld ?_ ?_
      rotate_left
      · rintro w' s0_
        go_simp
        with_reducible rfl
      rotate_left
      · simp only [Act.put, List.setIfInBounds_toArray, List.set_cons_zero, List.set_cons_succ, i64_w, i32_w]
        rfl
      refine one_ (i := 3) (N := some 26) #[true, true, true, true, false, true, true, true, true, false, false, false, false, false, false] rfl rfl (by kernel_rfl) (by decide) (fun K hK => ?_)
      refine goes_ Try.func28 (by kernel_rfl) rfl #[.slice (some ad) m c0] (by rfl) rfl rfl (by (try simp only [List.map_toArray, List.map_cons, List.map_nil]); first | done | rfl) ?_
      refine HS.out.mono ?_
      rintro e w2 ⟨rfl, hb2⟩
      refine ⟨_, rfl, ?_⟩
      have HX2 := Aside0.mk hb2
      refine hK _ _ (HBK.out _ HX2.out) (fun _ => ?_)
      clear hK K hb2
      refine norm_ (a' := ?_) ?_ ?_
      rotate_left
      · show Act.put _ (some 26) _ = _
        simp only [Act.put, List.setIfInBounds_toArray, List.set_cons_zero, List.set_cons_succ, i64_w, i32_w]
        rfl
      refine one_ (i := 4) (N := some 27) #[true, true, true, true, true, true, true, true, true, false, false, false, false, false, false] rfl rfl (by kernel_rfl) (by decide) (fun K hK => ?_)
      refine goes_ Try.func19 (by kernel_rfl) rfl #[.float .f64 p] (by rfl) rfl rfl (by (try simp only [List.map_toArray, List.map_cons, List.map_nil]); first | done | rfl) ?_
      refine (HBy.out w2).mono ?_
      rintro e w3 ⟨rfl, hb3⟩
      refine ⟨_, rfl, ?_⟩
      have HX3 := Aside0.mk (Arr.below_trans HX2.out hb3)
      refine hK _ _ (HBK.out _ HX3.out) (fun _ => ?_)
      clear hK K hb3
      refine norm_ (a' := ?_) ?_ ?_
      rotate_left
      · show Act.put _ (some 27) _ = _
        simp only [Act.put, List.setIfInBounds_toArray, List.set_cons_zero, List.set_cons_succ, i64_w, i32_w]
        rfl
      refine one_ (i := 9) (N := some 32) #[true, true, true, true, true, true, true, true, true, true, false, false, false, false, false] rfl rfl (by kernel_rfl) (by decide) (fun K hK => ?_)
      refine goes_ Try.func24 (by kernel_rfl) rfl #[.string (by8 p), .float .f64 f] (by rfl) rfl rfl (by (try simp only [List.map_toArray, List.map_cons, List.map_nil]); first | done | rfl) ?_
      refine (HA.out w3).mono ?_
      rintro e w4 ⟨rfl, hb4⟩
      refine ⟨_, rfl, ?_⟩
      have HX4 := Aside0.mk (Arr.below_trans HX3.out hb4)
      refine hK _ _ (HBK.out _ HX4.out) (fun _ => ?_)
      clear hK K hb4
      refine norm_ (a' := ?_) ?_ ?_
      rotate_left
      · show Act.put _ (some 32) _ = _
        simp only [Act.put, List.setIfInBounds_toArray, List.set_cons_zero, List.set_cons_succ, i64_w, i32_w]
        rfl
      refine pure_ (i := 10) (N := some 22) (v := ?_) (a' := ?_) #[true, true, true, true, true, true, true, true, true, true, true, false, false, false, false] rfl rfl (by kernel_rfl) (fun _ _ _ h => h) (Or.inl ⟨by rfl, ?_⟩) ?_ ?_
      rotate_left
      · intro w'
        go_simp
        with_reducible rfl
      rotate_left
      · simp only [Act.put, List.setIfInBounds_toArray, List.set_cons_zero, List.set_cons_succ, i64_w, i32_w]
        rfl
      refine pure_ (i := 11) (N := some 33) (v := ?_) (a' := ?_) #[true, true, true, true, true, true, true, true, true, true, true, true, false, false, false] rfl rfl (by kernel_rfl) (fun _ _ _ h => h) (Or.inl ⟨by rfl, ?_⟩) ?_ ?_
      rotate_left
      · intro w'
        go_simp
        with_reducible rfl
      rotate_left
      · simp only [Act.put, List.setIfInBounds_toArray, List.set_cons_zero, List.set_cons_succ, i64_w, i32_w]
        rfl
      refine pure_ (i := 12) (N := some 34) (v := ?_) (a' := ?_) #[true, true, true, true, true, true, true, true, true, true, true, true, true, false, false] rfl rfl (by kernel_rfl) (fun _ _ _ h => h) (Or.inl ⟨by rfl, ?_⟩) ?_ ?_
      rotate_left
      · intro w'
        go_simp
        with_reducible rfl
      rotate_left
      · simp only [Act.put, List.setIfInBounds_toArray, List.set_cons_zero, List.set_cons_succ, i64_w, i32_w]
        rfl
      refine pure_ (i := 13) (N := some 4) (v := ?_) (a' := ?_) #[true, true, true, true, true, true, true, true, true, true, true, true, true, true, false] rfl rfl (by kernel_rfl) (fun _ _ _ h => h) (Or.inl ⟨by rfl, ?_⟩) ?_ ?_
      rotate_left
      · intro w'
        go_simp
        with_reducible rfl
      rotate_left
      · simp only [Act.put, List.setIfInBounds_toArray, List.set_cons_zero, List.set_cons_succ, i64_w, i32_w]
        rfl
      refine pure_ (i := 14) (N := some 5) (v := ?_) (a' := ?_) #[true, true, true, true, true, true, true, true, true, true, true, true, true, true, true] rfl rfl (by kernel_rfl) (fun _ _ _ h => h) (Or.inl ⟨by rfl, ?_⟩) ?_ ?_
      rotate_left
      · intro w'
        go_simp
        with_reducible rfl
      rotate_left
      · simp only [Act.put, List.setIfInBounds_toArray, List.set_cons_zero, List.set_cons_succ, i64_w, i32_w]
        rfl
      refine done_ (by kernel_rfl) ?_
      clear hHeld hc0'
      have HB5 := Aside0.mk (Arr.below_trans HBD.out HX4.out)
      clear HB HBD HX4 HX3 HX2
      have HB := HB5; clear HB5
      go_wp2_with (first | (go_at_call 28; with_reducible refine (HS2.out _ (Kd.C_below HR.out HB.out)).mono ?_; rintro e w1 ⟨rfl, hb1⟩; have n_ := Aside0.mk (Arr.below_trans HB.out hb1); clear HB; have HB := n_; clear n_ hb1) | (go_at_call 19; with_reducible refine (HB2.out _).mono ?_; rintro e w1 ⟨rfl, hb1⟩; have n_ := Aside0.mk (Arr.below_trans HB.out hb1); clear HB; have HB := n_; clear n_ hb1))
      go_ret
      exact ⟨rfl, HB.out⟩
def careenlaw02_CellRow.f (l0 : List UInt64) : Option Bool := some true
theorem careenlaw02_CellRow.calls (A0 : Option Addr) (c0 : Nat) (l0 : List UInt64) (r : Bool) (w : World) (hr0 : Kd.C kf w A0 l0.length l0) (hc0 : l0.length ≤ c0) (h : careenlaw02_CellRow.f l0 = some r) :
    Calls Try.prog 8 #[.slice A0 l0.length c0] w fun e w' => e = .returned (.bool r) ∧ Below w.heap.size w w' := by
  obtain rfl := Option.some.inj h
  exact row_walk A0 c0 l0 w hr0 hc0
end Go.Proofs.Ytnhlfafdldpdgaa.X2
