import Derived.Test.YtnhlfafdldpdgaaCell
import Derived.Test.YtnhlfafdldpdgaaWMore
/-! Layer 2: the reference's functions; the functions over lists. -/
namespace Go.Proofs.Ytnhlfafdldpdgaa.Cell
open Go Go.RowKit Go.Proofs.Ytnhlfafdldpdgaa.Arr Go.Proofs.Ytnhlfafdldpdgaa.Flt Go.Proofs.YtnhlfafdldpdgaaW.PrintWords Go.Proofs.YtnhlfafdldpdgaaW.PrintLast Go.Proofs.YtnhlfafdldpdgaaW.PrintMore
set_option linter.unusedVariables false
set_option linter.unusedSimpArgs false
attribute [local go_sem] run_bits run_frombits
theorem shl_nan (b : Nat) : decide ((18437736874454810624 : Int) < IntKind.u64.wrap ((b : Int) * 2)) = isN b := by
  unfold isN
  rw [IntKind.wrap_u64]
  exact decide_eq_decide.2 (by omega)
theorem rnan_calls (b : Nat) (w : World) : Calls Try.prog 27 #[.float .f64 b] w (Gives (.bool (isN b)) w) := by
  have HB := Aside0.mk (Below.refl w.heap.size w)
  have h := shl_nan b
  go_enter Try.func27, Try.ntmps27
  go_wp2
  go_ret
  exact ⟨by first | rfl | exact congrArg (fun x => Ending.returned (.bool x)) h, HB.out⟩
theorem rbits_calls (b : Nat) (w : World) : Calls Try.prog 21 #[.float .f64 b] w (Gives (.int .u64 (cn b : Int)) w) := by
  have HB := Aside0.mk (Below.refl w.heap.size w)
  have hN := rnan_calls b
  cases h : isN b with
  | true =>
    rw [h] at hN; rw [cn_nan h]; have HN := Aside0.mk hN; clear hN h
    go_enter Try.func21, Try.ntmps21
    go_wp2_with (go_at_call 27; refine (HN.out _).mono ?_; rintro e w1 ⟨rfl, hb1⟩; have n_ := Aside0.mk (Arr.below_trans HB.out hb1); clear HB; have HB := n_; clear n_ hb1)
    go_ret
    exact ⟨rfl, HB.out⟩
  | false =>
    rw [h] at hN; rw [cn_num h]; have HN := Aside0.mk hN; clear hN h
    go_enter Try.func21, Try.ntmps21
    go_wp2_with (go_at_call 27; refine (HN.out _).mono ?_; rintro e w1 ⟨rfl, hb1⟩; have n_ := Aside0.mk (Arr.below_trans HB.out hb1); clear HB; have HB := n_; clear n_ hb1)
    go_ret
    exact ⟨rfl, HB.out⟩
theorem mul_add (a : Nat) (b : UInt8) (h : a < 72057594037927936) : IntKind.u64.wrap (IntKind.u64.wrap ((a : Int) * 256) + IntKind.u64.wrap (b.toNat : Int)) = ((a * 256 + b.toNat : Nat) : Int) := by
  have hb := b.toNat_lt
  rw [IntKind.wrap_u64, IntKind.wrap_u64, IntKind.wrap_u64]
  omega
theorem rfloat_calls (s : ByteArray) (h : s.size = 8) (w : World) : Calls Try.prog 22 #[.string s] w (Gives (.float .f64 (cn (acc s 8))) w) := by
  have HB := Aside0.mk (Below.refl w.heap.size w)
  have hi : ∀ k : Nat, k < 8 → (k : Int) < (s.size : Int) := fun k hk => by omega
  have HI := Aside0.mk hi
  have HS := Aside0.mk h
  clear h hi
  go_enter Try.func22, Try.ntmps22
  go_upto_region 3 with (fail)
  go_loopw [3, 4] (fun v i wr => ∃ k : Nat, i = .int .i64 k ∧ v = .int .u64 (acc s k : Int) ∧ wr = w ∧ Aside0 (k ≤ 8)) (fun _ i _ => 8 - (intOf i).toNat)
  case atStart => exact ⟨0, rfl, rfl, rfl, ⟨by omega⟩⟩
  case round =>
    obtain ⟨k, rfl, rfl, rfl, K⟩ := hrel
    by_cases hlt : (k : Int) < 8
    · have h1 : (k : Int) < (s.size : Int) := HI.out k (by omega)
      have h2 : k < s.size := by omega
      have h0 : (0 : Int) ≤ (k : Int) := by omega
      have hwk : wrap64 ((k : Int) + 1) = ((k + 1 : Nat) : Int) := by unfold wrap64; omega
      go_upto_region 4 with (fail)
      rw [mul_add _ _ (acc_56 s k (by omega)), ← acc_succ s k h2]
      go_wp2
      go_roundw
      case rel => exact ⟨k + 1, by first | rw [hwk] | go_num, rfl, by trivial, ⟨by omega⟩⟩
      case measure =>
        try rw [hwk]
        simp [intOf]; omega
    · obtain rfl : k = 8 := by have := K.out; omega
      clear hlt
      have hz : (0 : Int) ≤ (acc s 8 : Int) := by omega
      go_upto_region 6 with (fail)
      go_wp2_with (go_at_call 21; refine (rbits_calls (acc s 8) _).mono ?_; rintro e w1 ⟨rfl, hb1⟩)
      go_ret
      exact ⟨rfl, hb1⟩
theorem key_neg (n : Nat) (h : 9223372036854775808 ≤ n) (h2 : n ≤ 18442240474082181120) : wrap64 (-1 - wrap64 (IntKind.u64.wrap ((n : Int) - 9223372036854775808))) = -1 - ((n : Int) - 9223372036854775808) := by
  rw [IntKind.wrap_u64]; unfold wrap64; omega
theorem key_pos (n : Nat) (h : n < 9223372036854775808) : wrap64 (n : Int) = (n : Int) := by unfold wrap64; omega
theorem key_calls (b : Nat) (hb : b < 18446744073709551616) (w : World) : Calls Try.prog 56 #[.float .f64 b] w (Gives (.int .i64 (kz b)) w) := by
  have HB := Aside0.mk (Below.refl w.heap.size w)
  have hN := rnan_calls b
  have hR := rbits_calls b
  cases h : isN b with
  | true =>
    rw [h] at hN; rw [kz_nan h]; have HN := Aside0.mk hN; have HR := Aside0.mk hR; clear hN h hR
    go_enter Try.func56, Try.ntmps56
    go_wp2_with (first | (go_at_call 27; refine (HN.out _).mono ?_; rintro e w1 ⟨rfl, hb1⟩; have n_ := Aside0.mk (Arr.below_trans HB.out hb1); clear HB; have HB := n_; clear n_ hb1) | (go_at_call 21; refine (HR.out _).mono ?_; rintro e w1 ⟨rfl, hb1⟩; have n_ := Aside0.mk (Arr.below_trans HB.out hb1); clear HB; have HB := n_; clear n_ hb1))
    go_ret
    exact ⟨rfl, HB.out⟩
  | false =>
    rw [h] at hN; rw [cn_num h] at hR; have HN := Aside0.mk hN; have HR := Aside0.mk hR
    rcases kz_split h hb with ⟨h1, h2, _⟩ | ⟨h0, h1, h2, _⟩
    · rw [h2]
      have hk := key_pos b (by omega)
      have hlt : ¬ ((9223372036854775808 : Int) ≤ (b : Int)) := by omega
      have hd : decide ((9223372036854775808 : Int) ≤ (b : Int)) = false := decide_eq_false hlt
      clear hN h hR h1 h2 hlt
      go_enter Try.func56, Try.ntmps56
      go_wp2_with (first | (go_at_call 27; refine (HN.out _).mono ?_; rintro e w1 ⟨rfl, hb1⟩; have n_ := Aside0.mk (Arr.below_trans HB.out hb1); clear HB; have HB := n_; clear n_ hb1) | (go_at_call 21; refine (HR.out _).mono ?_; rintro e w1 ⟨rfl, hb1⟩; have n_ := Aside0.mk (Arr.below_trans HB.out hb1); clear HB; have HB := n_; clear n_ hb1))
      go_ret
      exact ⟨by first | exact congrArg (fun x => Ending.returned (.int .i64 x)) hk | rfl, HB.out⟩
    · rw [h2]
      have hk := key_neg b h0 h1
      have hlt : ((9223372036854775808 : Int) ≤ (b : Int)) := by omega
      have hd : decide ((9223372036854775808 : Int) ≤ (b : Int)) = true := decide_eq_true hlt
      have HK := Aside0.mk hk
      clear hN h hR h1 h2 hlt hk
      go_enter Try.func56, Try.ntmps56
      go_wp2_with (first | (go_at_call 27; refine (HN.out _).mono ?_; rintro e w1 ⟨rfl, hb1⟩; have n_ := Aside0.mk (Arr.below_trans HB.out hb1); clear HB; have HB := n_; clear n_ hb1) | (go_at_call 21; refine (HR.out _).mono ?_; rintro e w1 ⟨rfl, hb1⟩; have n_ := Aside0.mk (Arr.below_trans HB.out hb1); clear HB; have HB := n_; clear n_ hb1))
      go_ret
      exact ⟨by first | rfl | exact congrArg (fun x => Ending.returned (.int .i64 x)) HK.out, HB.out⟩
theorem rorder_calls (a b : Nat) (ha : a < 18446744073709551616) (hb : b < 18446744073709551616) (w : World) : Calls Try.prog 26 #[.float .f64 a, .float .f64 b] w (Gives (.int .i64 (ordF a b)) w) := by
  have HB := Aside0.mk (Below.refl w.heap.size w)
  have HK1 := Aside0.mk (key_calls a ha); have HK2 := Aside0.mk (key_calls b hb)
  unfold ordF
  generalize kz a = x at *
  generalize kz b = y at *
  go_enter Try.func26, Try.ntmps26
  go_wp2_with (go_at_call 56; (first | with_reducible refine (HK1.out _).mono ?_ | with_reducible refine (HK2.out _).mono ?_); rintro e w1 ⟨rfl, hb1⟩; have n_ := Aside0.mk (Arr.below_trans HB.out hb1); clear HB; have HB := n_; clear n_ hb1)
  all_goals (go_ret; refine ⟨?_, HB.out⟩)
  all_goals (refine congrArg (fun x => Ending.returned (Value.int .i64 x)) ?_; first | rfl | rw [if_pos (by omega)] | rw [if_neg (by omega), if_pos (by omega)] | rw [if_neg (by omega), if_neg (by omega)])
end Go.Proofs.Ytnhlfafdldpdgaa.Cell
