import Derived.Test.YtnhlfafdldpdgaaX2x90
import Derived.Test.YtnhlfafdldpdgaaCellT
/-! Layer 2: the walks of the laws. -/
namespace Go.Proofs.Ytnhlfafdldpdgaa.X2
open Go Go.RowKit Go.Proofs.Ytnhlfafdldpdgaa.Arr Go.Proofs.Ytnhlfafdldpdgaa.Flt Go.Proofs.Ytnhlfafdldpdgaa.Cell Go.Proofs.YtnhlfafdldpdgaaW.PrintWords Go.Proofs.YtnhlfafdldpdgaaW.PrintLast Go.Proofs.YtnhlfafdldpdgaaW.PrintMore
set_option linter.unusedVariables false
set_option linter.unusedSimpArgs false
attribute [local go_sem] run_bits run_frombits
theorem loop_bl (s : ByteArray) : ∀ (d i : Nat) (r : List UInt8), i + d = s.size → ByteArray.toList.loop s i r = r.reverse ++ (s.data.toList).drop i := by
  intro d
  induction d with
  | zero =>
    intro i r h
    rw [ByteArray.toList.loop, if_neg (by omega), List.drop_of_length_le (by rw [Array.length_toList]; exact Nat.le_of_eq (by show s.size = i; omega)), List.append_nil]
  | succ d ih =>
    intro i r h
    have hi : i < s.size := by omega
    have hl : i < (s.data.toList).length := by rw [Array.length_toList]; exact hi
    rw [ByteArray.toList.loop, if_pos hi, ih (i + 1) _ (by omega), List.drop_eq_getElem_cons hl, List.reverse_cons, List.append_assoc]
    have e : s.get! i = (s.data.toList)[i] := by
      show s.data[i]! = s.data.toList[i]
      have hd : i < s.data.size := hi
      rw [getElem!_pos s.data i hd]
      exact (Array.getElem_toList hd).symm
    rw [e]
    rfl
theorem toList_bl (s : ByteArray) : s.toList = s.data.toList := by
  show ByteArray.toList.loop s 0 [] = _
  rw [loop_bl s s.size 0 [] (by omega)]
  rfl
theorem str_no {s t : ByteArray} (h : s ≠ t) : (s == t) = false := by
  obtain ⟨d⟩ := s
  obtain ⟨e⟩ := t
  show (d == e) = false
  exact beq_eq_false_iff_ne.2 fun q => h (by rw [q])
set_option maxHeartbeats 1000000 in
theorem order_walk (a b c : Nat) (ha : a < 18446744073709551616) (hb : b < 18446744073709551616) (hc : c < 18446744073709551616) (w : World) : Calls Try.prog 5 #[.float .f64 a, .float .f64 b, .float .f64 c] w (Gives (.bool true) w) := by
  have HB := Aside0.mk (Below.refl w.heap.size w)
  have HAW := Aside0.mk awake_go
  have HO1 := Aside0.mk (order_calls a b ha hb); have HO2 := Aside0.mk (order_calls b a hb ha); have HO3 := Aside0.mk (order_calls b c hb hc); have HO4 := Aside0.mk (order_calls a c ha hc)
  have HR1 := Aside0.mk (rorder_calls a b ha hb); have HB1 := Aside0.mk (rbits_calls a); have HB2 := Aside0.mk (rbits_calls b)
  have hn := ord_neg a b
  have hn2 : wrap64 (-ordF b a) = ordF a b := by rw [← hn]; congr 1; omega
  have hz : (ordF a b == 0) = ((cn a : Int) == (cn b : Int)) := by
    rw [Bool.eq_iff_iff, beq_iff_eq, beq_iff_eq, ord_zero, kz_inj a b ha hb]
    omega
  have p1 := ord_pos a b; have p3 := ord_pos b c; have p4 := ord_pos a c
  have htr : ¬ 0 < ordF a b → ¬ 0 < ordF b c → ordF a c ≤ 0 := by
    intro h1 h2
    have := mt p1.2 h1; have := mt p3.2 h2
    refine Int.not_lt.1 fun q => ?_
    have := p4.1 q
    omega
  generalize ordF a b = o1 at *
  generalize ordF b a = o2 at *
  generalize ordF b c = o3 at *
  generalize ordF a c = o4 at *
  generalize (cn a : Int) = x at *
  generalize (cn b : Int) = y at *
  have e1 := int_ne o1
  have e2 : ((o1 == 0) != (x == y)) = false := by rw [hz]; exact bool_ne _
  have e3 : ((x == y) != (x == y)) = false := bool_ne _
  clear p1 p3 p4
  by_cases c1 : 0 < o1
  · clear htr
    go_enter Try.func5, Try.ntmps5
    go_wp2_with (first | (go_at_call 17; with_reducible refine (HAW.out _).mono ?_; rintro e w1 ⟨rfl, hb1⟩; have n_ := Aside0.mk (Arr.below_trans HB.out hb1); clear HB; have HB := n_; clear n_ hb1) | (go_at_call 25; (first | with_reducible refine (HO1.out _).mono ?_ | with_reducible refine (HO2.out _).mono ?_ | with_reducible refine (HO3.out _).mono ?_ | with_reducible refine (HO4.out _).mono ?_); rintro e w1 ⟨rfl, hb1⟩; have n_ := Aside0.mk (Arr.below_trans HB.out hb1); clear HB; have HB := n_; clear n_ hb1) | (go_at_call 26; (first | with_reducible refine (HR1.out _).mono ?_); rintro e w1 ⟨rfl, hb1⟩; have n_ := Aside0.mk (Arr.below_trans HB.out hb1); clear HB; have HB := n_; clear n_ hb1) | (go_at_call 21; (first | with_reducible refine (HB1.out _).mono ?_ | with_reducible refine (HB2.out _).mono ?_); rintro e w1 ⟨rfl, hb1⟩; have n_ := Aside0.mk (Arr.below_trans HB.out hb1); clear HB; have HB := n_; clear n_ hb1))
    go_ret
    exact ⟨rfl, HB.out⟩
  · by_cases c2 : 0 < o3
    · clear htr
      go_enter Try.func5, Try.ntmps5
      go_wp2_with (first | (go_at_call 17; with_reducible refine (HAW.out _).mono ?_; rintro e w1 ⟨rfl, hb1⟩; have n_ := Aside0.mk (Arr.below_trans HB.out hb1); clear HB; have HB := n_; clear n_ hb1) | (go_at_call 25; (first | with_reducible refine (HO1.out _).mono ?_ | with_reducible refine (HO2.out _).mono ?_ | with_reducible refine (HO3.out _).mono ?_ | with_reducible refine (HO4.out _).mono ?_); rintro e w1 ⟨rfl, hb1⟩; have n_ := Aside0.mk (Arr.below_trans HB.out hb1); clear HB; have HB := n_; clear n_ hb1) | (go_at_call 26; (first | with_reducible refine (HR1.out _).mono ?_); rintro e w1 ⟨rfl, hb1⟩; have n_ := Aside0.mk (Arr.below_trans HB.out hb1); clear HB; have HB := n_; clear n_ hb1) | (go_at_call 21; (first | with_reducible refine (HB1.out _).mono ?_ | with_reducible refine (HB2.out _).mono ?_); rintro e w1 ⟨rfl, hb1⟩; have n_ := Aside0.mk (Arr.below_trans HB.out hb1); clear HB; have HB := n_; clear n_ hb1))
      go_ret
      exact ⟨rfl, HB.out⟩
    · have c3 := htr c1 c2
      clear htr
      go_enter Try.func5, Try.ntmps5
      go_wp2_with (first | (go_at_call 17; with_reducible refine (HAW.out _).mono ?_; rintro e w1 ⟨rfl, hb1⟩; have n_ := Aside0.mk (Arr.below_trans HB.out hb1); clear HB; have HB := n_; clear n_ hb1) | (go_at_call 25; (first | with_reducible refine (HO1.out _).mono ?_ | with_reducible refine (HO2.out _).mono ?_ | with_reducible refine (HO3.out _).mono ?_ | with_reducible refine (HO4.out _).mono ?_); rintro e w1 ⟨rfl, hb1⟩; have n_ := Aside0.mk (Arr.below_trans HB.out hb1); clear HB; have HB := n_; clear n_ hb1) | (go_at_call 26; (first | with_reducible refine (HR1.out _).mono ?_); rintro e w1 ⟨rfl, hb1⟩; have n_ := Aside0.mk (Arr.below_trans HB.out hb1); clear HB; have HB := n_; clear n_ hb1) | (go_at_call 21; (first | with_reducible refine (HB1.out _).mono ?_ | with_reducible refine (HB2.out _).mono ?_); rintro e w1 ⟨rfl, hb1⟩; have n_ := Aside0.mk (Arr.below_trans HB.out hb1); clear HB; have HB := n_; clear n_ hb1))
      go_ret
      exact ⟨rfl, HB.out⟩
def careenlaw02_CellOrder.f (a0 a1 a2 : UInt64) : Option Bool := some true
theorem careenlaw02_CellOrder.calls (a0 a1 a2 : UInt64) (r : Bool) (w : World) (h : careenlaw02_CellOrder.f a0 a1 a2 = some r) :
    Calls Try.prog 5 #[.float .f64 a0.toNat, .float .f64 a1.toNat, .float .f64 a2.toNat] w fun e w' => e = .returned (.bool r) ∧ Below w.heap.size w w' := by
  obtain rfl := Option.some.inj h
  exact order_walk a0.toNat a1.toNat a2.toNat a0.toNat_lt a1.toNat_lt a2.toNat_lt w
set_option maxHeartbeats 1000000 in
theorem back_walk (s : ByteArray) (f : Nat) (hf : f < 18446744073709551616) (w : World) : Calls Try.prog 6 #[.string s, .float .f64 f] w (Gives (.bool true) w) := by
  have HB := Aside0.mk (Below.refl w.heap.size w)
  have HAW := Aside0.mk awake_go
  by_cases h8 : s.size = 8
  · have z8 : ((s.size : Int) != 8) = false := by simp [h8]
    have hF := float_calls s
    simp only [if_pos h8] at hF
    have hX := acc_64 s
    have hs := by8_acc s h8
    have hNC : isN (cn (acc s 8)) = isN (acc s 8) := isN_cn _
    have hsn : isN (acc s 8) = false → cn (acc s 8) = acc s 8 := cn_num
    generalize acc s 8 = X at *
    have hY := bytes_calls (cn X) (cn_lt hX)
    rw [cn_cn] at hY
    have hA := add_calls (by8 (cn X)) 0
    simp only [if_pos (show (by8 (cn X)).size = 8 from rfl)] at hA
    rw [addS_by8 _ _ (cn_lt hX), add_zero _ (cn_lt hX), cn_cn] at hA
    have hN := rnan_calls (cn X)
    rw [hNC] at hN
    have hFF := float_calls (by8 (cn f))
    simp only [if_pos (show (by8 (cn f)).size = 8 from rfl)] at hFF
    rw [acc_by8 _ (cn_lt hf), cn_cn] at hFF
    have hB1 := rbits_calls (cn f)
    rw [cn_cn] at hB1
    have hm : (by8 (cn X) == ⟨#[128, 0, 0, 0, 0, 0, 0, 0]⟩) = minus (cn X) := by
      have e : (⟨#[128, 0, 0, 0, 0, 0, 0, 0]⟩ : ByteArray) = by8 9223372036854775808 := by decide +kernel
      rw [e]
      cases q : minus (cn X) with
      | true => rw [show cn X = 9223372036854775808 from beq_iff_eq.1 q]; exact str_eq _
      | false =>
        refine str_no fun z => ?_
        have := by8_inj (cn_lt hX) (by decide) z
        rw [this] at q
        cases q
    have htl : (by8 (cn X)).toList = [128, 0, 0, 0, 0, 0, 0, 0] ↔ minus (cn X) = true := by
      rw [← hm, toList_bl]
      constructor
      · intro z
        have e : by8 (cn X) = ⟨#[128, 0, 0, 0, 0, 0, 0, 0]⟩ := ByteArray.ext (Array.toList_inj.1 z)
        rw [e]; exact str_eq _
      · intro z
        cases q : minus (cn X) with
        | true => rw [show cn X = 9223372036854775808 from beq_iff_eq.1 q]; decide +kernel
        | false => rw [hm, q] at z; cases z
    have HF := Aside0.mk hF; have HY := Aside0.mk hY; have HN := Aside0.mk hN; have HFF := Aside0.mk hFF; have HYF := Aside0.mk (bytes_calls f hf); have HB1 := Aside0.mk hB1; have HB2 := Aside0.mk (rbits_calls f)
    have x0 := int_eq (cn f : Int)
    cases m : minus (cn X) with
    | true =>
      have hX8 : cn X = 9223372036854775808 := beq_iff_eq.1 m
      rw [m] at hm hA
      simp only [if_true] at hA
      have tl : ((by8 (cn X)).toList == [128, 0, 0, 0, 0, 0, 0, 0]) = true := by rw [beq_iff_eq]; exact htl.2 m
      clear htl
      have n0 : isN X = false := by rw [← isN_cn, hX8]; decide
      rw [n0] at HN
      rw [← hsn n0] at hs
      have u0 : (by8 0 == by8 (cn X)) = false := by
        refine str_no fun z => ?_
        have := by8_inj (by decide) (cn_lt hX) z
        rw [hX8] at this
        cases this
      have u1 : ((by8 0).toList == (by8 (cn X)).toList) = false := by
        rw [beq_eq_false_iff_ne]
        intro z
        rw [toList_bl, toList_bl] at z
        rw [show by8 0 = by8 (cn X) from ByteArray.ext (Array.toList_inj.1 z), str_eq] at u0
        cases u0
      rw [hs] at *
      have y0 := str_eq s
      have HA := Aside0.mk hA
      clear hF hY hN hFF hB1 hA h8 hNC hsn n0 hs m hX8
      generalize by8 0 = u at *
      generalize by8 (cn f) = yf at *
      go_enter Try.func6, Try.ntmps6
      go_wp2_with (first | (go_at_call 17; with_reducible refine (HAW.out _).mono ?_; rintro e w1 ⟨rfl, hb1⟩; have n_ := Aside0.mk (Arr.below_trans HB.out hb1); clear HB; have HB := n_; clear n_ hb1) | (go_at_call 18; (first | with_reducible refine (HF.out _).mono ?_ | with_reducible refine (HFF.out _).mono ?_); rintro e w1 ⟨rfl, hb1⟩; have n_ := Aside0.mk (Arr.below_trans HB.out hb1); clear HB; have HB := n_; clear n_ hb1) | (go_at_call 19; (first | with_reducible refine (HY.out _).mono ?_ | with_reducible refine (HYF.out _).mono ?_); rintro e w1 ⟨rfl, hb1⟩; have n_ := Aside0.mk (Arr.below_trans HB.out hb1); clear HB; have HB := n_; clear n_ hb1) | (go_at_call 24; with_reducible refine (HA.out _).mono ?_; rintro e w1 ⟨rfl, hb1⟩; have n_ := Aside0.mk (Arr.below_trans HB.out hb1); clear HB; have HB := n_; clear n_ hb1) | (go_at_call 27; with_reducible refine (HN.out _).mono ?_; rintro e w1 ⟨rfl, hb1⟩; have n_ := Aside0.mk (Arr.below_trans HB.out hb1); clear HB; have HB := n_; clear n_ hb1) | (go_at_call 21; (first | with_reducible refine (HB1.out _).mono ?_ | with_reducible refine (HB2.out _).mono ?_); rintro e w1 ⟨rfl, hb1⟩; have n_ := Aside0.mk (Arr.below_trans HB.out hb1); clear HB; have HB := n_; clear n_ hb1))
      go_ret
      exact ⟨rfl, HB.out⟩
    | false =>
      rw [m] at hm hA
      simp only [Bool.false_eq_true, if_false] at hA
      have tl : ((by8 (cn X)).toList == [128, 0, 0, 0, 0, 0, 0, 0]) = false := by
        rw [beq_eq_false_iff_ne]
        intro z
        rw [htl.1 z] at m; cases m
      clear htl
      have HA := Aside0.mk hA
      have y1 := str_eq (by8 (cn X))
      cases n0 : isN X with
      | true =>
        rw [n0] at HN
        clear hF hY hN hFF hB1 hA h8 hNC hsn n0 hs m
        generalize by8 (cn X) = t at *
        generalize by8 (cn f) = yf at *
        go_enter Try.func6, Try.ntmps6
        go_wp2_with (first | (go_at_call 17; with_reducible refine (HAW.out _).mono ?_; rintro e w1 ⟨rfl, hb1⟩; have n_ := Aside0.mk (Arr.below_trans HB.out hb1); clear HB; have HB := n_; clear n_ hb1) | (go_at_call 18; (first | with_reducible refine (HF.out _).mono ?_ | with_reducible refine (HFF.out _).mono ?_); rintro e w1 ⟨rfl, hb1⟩; have n_ := Aside0.mk (Arr.below_trans HB.out hb1); clear HB; have HB := n_; clear n_ hb1) | (go_at_call 19; (first | with_reducible refine (HY.out _).mono ?_ | with_reducible refine (HYF.out _).mono ?_); rintro e w1 ⟨rfl, hb1⟩; have n_ := Aside0.mk (Arr.below_trans HB.out hb1); clear HB; have HB := n_; clear n_ hb1) | (go_at_call 24; with_reducible refine (HA.out _).mono ?_; rintro e w1 ⟨rfl, hb1⟩; have n_ := Aside0.mk (Arr.below_trans HB.out hb1); clear HB; have HB := n_; clear n_ hb1) | (go_at_call 27; with_reducible refine (HN.out _).mono ?_; rintro e w1 ⟨rfl, hb1⟩; have n_ := Aside0.mk (Arr.below_trans HB.out hb1); clear HB; have HB := n_; clear n_ hb1) | (go_at_call 21; (first | with_reducible refine (HB1.out _).mono ?_ | with_reducible refine (HB2.out _).mono ?_); rintro e w1 ⟨rfl, hb1⟩; have n_ := Aside0.mk (Arr.below_trans HB.out hb1); clear HB; have HB := n_; clear n_ hb1))
        go_ret
        exact ⟨rfl, HB.out⟩
      | false =>
        rw [n0] at HN
        rw [← hsn n0] at hs
        rw [hs] at *
        clear hF hY hN hFF hB1 hA h8 hNC hsn n0 hs m
        generalize by8 (cn f) = yf at *
        go_enter Try.func6, Try.ntmps6
        go_wp2_with (first | (go_at_call 17; with_reducible refine (HAW.out _).mono ?_; rintro e w1 ⟨rfl, hb1⟩; have n_ := Aside0.mk (Arr.below_trans HB.out hb1); clear HB; have HB := n_; clear n_ hb1) | (go_at_call 18; (first | with_reducible refine (HF.out _).mono ?_ | with_reducible refine (HFF.out _).mono ?_); rintro e w1 ⟨rfl, hb1⟩; have n_ := Aside0.mk (Arr.below_trans HB.out hb1); clear HB; have HB := n_; clear n_ hb1) | (go_at_call 19; (first | with_reducible refine (HY.out _).mono ?_ | with_reducible refine (HYF.out _).mono ?_); rintro e w1 ⟨rfl, hb1⟩; have n_ := Aside0.mk (Arr.below_trans HB.out hb1); clear HB; have HB := n_; clear n_ hb1) | (go_at_call 24; with_reducible refine (HA.out _).mono ?_; rintro e w1 ⟨rfl, hb1⟩; have n_ := Aside0.mk (Arr.below_trans HB.out hb1); clear HB; have HB := n_; clear n_ hb1) | (go_at_call 27; with_reducible refine (HN.out _).mono ?_; rintro e w1 ⟨rfl, hb1⟩; have n_ := Aside0.mk (Arr.below_trans HB.out hb1); clear HB; have HB := n_; clear n_ hb1) | (go_at_call 21; (first | with_reducible refine (HB1.out _).mono ?_ | with_reducible refine (HB2.out _).mono ?_); rintro e w1 ⟨rfl, hb1⟩; have n_ := Aside0.mk (Arr.below_trans HB.out hb1); clear HB; have HB := n_; clear n_ hb1))
        go_ret
        exact ⟨rfl, HB.out⟩
  · have z8 : ((s.size : Int) != 8) = true := by simpa using (by omega : ¬ (s.size : Int) = 8)
    clear h8
    go_enter Try.func6, Try.ntmps6
    go_wp2_with (first | (go_at_call 17; with_reducible refine (HAW.out _).mono ?_; rintro e w1 ⟨rfl, hb1⟩; have n_ := Aside0.mk (Arr.below_trans HB.out hb1); clear HB; have HB := n_; clear n_ hb1))
    go_ret
    exact ⟨rfl, HB.out⟩
def careenlaw02_CellBack.f (a0 : ByteArray) (a1 : UInt64) : Option Bool := some true
theorem careenlaw02_CellBack.calls (a0 : ByteArray) (a1 : UInt64) (r : Bool) (w : World) (h : careenlaw02_CellBack.f a0 a1 = some r) :
    Calls Try.prog 6 #[.string a0, .float .f64 a1.toNat] w fun e w' => e = .returned (.bool r) ∧ Below w.heap.size w w' := by
  obtain rfl := Option.some.inj h
  exact back_walk a0 a1.toNat a1.toNat_lt w
end Go.Proofs.Ytnhlfafdldpdgaa.X2
