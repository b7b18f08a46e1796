import Derived.Test.YtbdfdfahpdilpaaX3x0
import Derived.Test.YtbdfdfahpdilpaaZA
import Derived.Test.YtbdfdfahpdilpaaD8
/-! Layer 3: laws. -/
namespace Go.Proofs.Ytbdfdfahpdilpaa.X3
open Go Go.RowKit Go.ChangeMaps Go.Proofs.Ytbdfdfahpdilpaa.Arr Go.Proofs.Ytbdfdfahpdilpaa.Mp Go.Proofs.Ytbdfdfahpdilpaa.Ow Go.Proofs.Ytbdfdfahpdilpaa.Dk Go.Proofs.YtbdfdfahpdilpaaW.PrintWords Go.Proofs.YtbdfdfahpdilpaaW.PrintLast Go.Proofs.YtbdfdfahpdilpaaW.PrintMore
set_option linter.unusedVariables false
set_option linter.unusedSimpArgs false
set_option maxHeartbeats 4000000 in
theorem nil_walk (i : Int) (s : ByteArray) (v : Value) (w : World) : Calls Try.prog 8 #[.int .i64 i, .string s, v] w fun e w' => e = .returned (.bool true) ∧ Below w.heap.size w w' := by
  have HB := Aside0.mk (Below.refl w.heap.size w)
  go_enter Try.func8, Try.ntmps8
  go_upto_region 5 with (first | (go_at_call 23; (with_reducible refine (arm_nil _ _).mono ?_); rintro e w1 ⟨rfl, hb1⟩; have n_ := Aside0.mk (Arr.below_trans HB.out hb1); clear HB; have HB := n_; clear n_ hb1) | (go_at_call 20; (with_reducible refine (crash_nil _ _).mono ?_); rintro e w1 ⟨rfl, hb1⟩; have n_ := Aside0.mk (Arr.below_trans HB.out hb1); clear HB; have HB := n_; clear n_ hb1) | (go_at_call 19; (with_reducible refine (read_nil _ _).mono ?_); rintro e w1 ⟨rfl, hb1⟩; have n_ := Aside0.mk (Arr.below_trans HB.out hb1); clear HB; have HB := n_; clear n_ hb1))
  go_wp2_with (first | (go_at_call 14; (with_reducible refine (awake_calls _).mono ?_); rintro e w1 ⟨rfl, hb1⟩; have n_ := Aside0.mk (Arr.below_trans HB.out hb1); clear HB; have HB := n_; clear n_ hb1) | (go_at_call 16; (with_reducible refine (write_nil _ _ _).mono ?_); rintro e w1 ⟨rfl, hb1⟩; have n_ := Aside0.mk (Arr.below_trans HB.out hb1); clear HB; have HB := n_; clear n_ hb1) | (go_at_call 18; (with_reducible refine (sync_nil _).mono ?_); rintro e w1 ⟨rfl, hb1⟩; have n_ := Aside0.mk (Arr.below_trans HB.out hb1); clear HB; have HB := n_; clear n_ hb1) | (go_at_call 29; (with_reducible refine (lose_nil _ _).mono ?_); rintro e w1 ⟨rfl, hb1⟩; have n_ := Aside0.mk (Arr.below_trans HB.out hb1); clear HB; have HB := n_; clear n_ hb1) | (go_at_call 22; (with_reducible refine (dead_nil _).mono ?_); rintro e w1 ⟨rfl, hb1⟩; have n_ := Aside0.mk (Arr.below_trans HB.out hb1); clear HB; have HB := n_; clear n_ hb1) | (go_at_call 31; (with_reducible refine (size_nil _).mono ?_); rintro e w1 ⟨rfl, hb1⟩; have n_ := Aside0.mk (Arr.below_trans HB.out hb1); clear HB; have HB := n_; clear n_ hb1) | (go_at_call 21; (with_reducible refine (waiting_nil _).mono ?_); rintro e w1 ⟨rfl, hb1⟩; have n_ := Aside0.mk (Arr.below_trans HB.out hb1); clear HB; have HB := n_; clear n_ hb1) | (go_at_call 24; (with_reducible refine (copy_nil _).mono ?_); rintro e w1 ⟨rfl, hb1⟩; have n_ := Aside0.mk (Arr.below_trans HB.out hb1); clear HB; have HB := n_; clear n_ hb1))
  go_ret
  exact ⟨rfl, HB.out⟩
def careenlaw03_DiskNil.f (a0 : Int) (a1 : ByteArray) (l2 : List Int) : Option Bool := some true
theorem careenlaw03_DiskNil.calls (a0 : Int) (a1 : ByteArray) (A2 : Option Addr) (c2 : Nat) (l2 : List Int) (r : Bool) (w : World) (hr2 : Kd.C (Kd.int .u8) w A2 l2.length l2) (hc2 : l2.length ≤ c2) (h : careenlaw03_DiskNil.f a0 a1 l2 = some r) :
    Calls Try.prog 8 #[.int .i64 a0, .string a1, .slice A2 l2.length c2] w fun e w' => e = .returned (.bool r) ∧ Below w.heap.size w w' := by
  obtain rfl := Option.some.inj h
  exact nil_walk a0 a1 _ w
/-- A byte's full sector. -/
def fullI (x : Int) : ByteArray := fullS (UInt8.ofNat x.toNat)
theorem fullI_size (x : Int) : (fullI x).size = 128 := full_size _
theorem full_int (x : Int) (h0 : 0 ≤ x) (h1 : x < 256) (w : World) : Calls Try.prog 17 #[.int .u8 x] w fun e w' => e = .returned (.string (fullI x)) ∧ Below w.heap.size w w' := by
  have := full_calls (UInt8.ofNat x.toNat) w
  rwa [show (((UInt8.ofNat x.toNat).toNat : Nat) : Int) = x by
    simp only [UInt8.toNat_ofNat']
    omega] at this
/-- Calls as a program can have them. -/
def OkOp (x : S31) : Prop := (-9223372036854775808 ≤ x.f0 ∧ x.f0 < 9223372036854775808) ∧ (-9223372036854775808 ≤ x.f1 ∧ x.f1 < 9223372036854775808) ∧ (-9223372036854775808 ≤ x.f2 ∧ x.f2 < 9223372036854775808) ∧ (0 ≤ x.f3 ∧ x.f3 < 256) ∧ ∀ y ∈ x.f4, 0 ≤ y ∧ y < 256
def OkOps (l : List S31) : Prop := ∀ x ∈ l, OkOp x
theorem rd_mem {l : List S31} {k : Nat} (h : k < l.length) : rd_T31 l k ∈ l := by
  unfold rd_T31
  rw [Int.toNat_natCast, List.getD_eq_getElem?_getD, List.getElem?_eq_getElem h]
  exact List.getElem_mem h
def longF (l : List S31) : Bool := l.any (fun x => decide (200 < x.f4.length)) || decide (300 < l.length)
set_option maxHeartbeats 1000000 in
theorem long_calls (A0 : Option Addr) (c0 : Nat) (l : List S31) (w : World) (hr : Kd.C k31 w A0 l.length l) : Calls Try.prog 15 #[.slice A0 l.length c0] w fun e w' => e = .returned (.bool (longF l)) ∧ Below w.heap.size w w' := by
  have hm := Kd.C_max hr
  have HR := Aside0.mk hr; clear hr
  go_enter Try.func15, Try.ntmps15
  go_upto_region 2 with (fail)
  go_loopw [7] (fun i wr => ∃ k : Nat, i = .int .i64 k ∧ Aside0 (k ≤ l.length) ∧ Aside0 (Below w.heap.size w wr) ∧ Aside0 (∀ j, j < k → ¬ 200 < (rd_T31 l (j : Nat)).f4.length)) (fun i _ => l.length - (intOf i).toNat)
  case atStart => exact ⟨0, rfl, ⟨by omega⟩, ⟨Below.refl _ _⟩, ⟨fun j h => absurd h (Nat.not_lt_zero _)⟩⟩
  case round =>
    obtain ⟨k, rfl, K, HB, HL⟩ := hrel
    by_cases hlt : k < l.length
    · have h1 : (k : Int) < (l.length : Int) := by omega
      obtain ⟨ad, A4, c4, rfl, q0, q1, q2, q3, q4, hl4, hC4⟩ := at_T31 HR.out (k : Int) (by omega) h1
      rw [Int.toNat_natCast] at q0 q1 q2 q3 q4
      replace q0 := pw_cell_below HB.out q0; replace q1 := pw_cell_below HB.out q1; replace q2 := pw_cell_below HB.out q2; replace q3 := pw_cell_below HB.out q3; replace q4 := pw_cell_below HB.out q4
      have hwk : wrap64 ((k : Int) + 1) = ((k + 1 : Nat) : Int) := by unfold wrap64; omega
      clear hl4 hC4
      by_cases hp : 200 < (rd_T31 l (k : Nat)).f4.length
      · have hv : longF l = true := by unfold longF; rw [List.any_eq_true.2 ⟨_, rd_mem hlt, decide_eq_true hp⟩]; rfl
        have HV := Aside0.mk hv; clear hv
        have hp1 : (200 : Int) < ((rd_T31 l (k : Nat)).f4.length : Int) := by omega
        clear HL
        go_wp2
        go_ret
        exact ⟨by rw [HV.out]; rfl, HB.out.alloc (by first | exact HB.out.size | exact Nat.le_refl _) _⟩
      · have hp1 : ¬ (200 : Int) < ((rd_T31 l (k : Nat)).f4.length : Int) := by omega
        have HP := Aside0.mk hp; clear hp
        go_wp2
        go_roundw
        case rel =>
          refine ⟨k + 1, by first | rw [hwk] | go_num, ⟨by omega⟩, ⟨HB.out.alloc (by first | exact HB.out.size | exact Nat.le_refl _) _⟩, ⟨fun j hj => ?_⟩⟩
          rcases Nat.lt_succ_iff_lt_or_eq.1 hj with h | h
          · exact HL.out j h
          · subst h; exact HP.out
        case measure =>
          try rw [hwk]
          simp [intOf]; omega
    · obtain rfl : k = l.length := by have := K.out; omega
      have hv : longF l = decide ((300 : Int) < (l.length : Int)) := by
        unfold longF
        have : l.any (fun x => decide (200 < x.f4.length)) = false := by
          rw [List.any_eq_false]
          intro x hx
          obtain ⟨j, hj, rfl⟩ := List.getElem_of_mem hx
          have := HL.out j hj
          unfold rd_T31 at this
          rw [Int.toNat_natCast, List.getD_eq_getElem?_getD, List.getElem?_eq_getElem hj] at this
          simpa using this
        rw [this, Bool.false_or]
        exact decide_eq_decide.2 ⟨fun h => by omega, fun h => by omega⟩
      have HV := Aside0.mk hv
      clear HL hv hlt
      go_wp2
      go_ret
      exact ⟨by rw [HV.out]; rfl, HB.out⟩
end Go.Proofs.Ytbdfdfahpdilpaa.X3
