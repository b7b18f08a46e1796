import Derived.Test.YtcelfhoomhmioaaPEZ0
import Derived.Test.YtcelfhoomhmioaaPEZ1
import Derived.Test.YtcelfhoomhmioaaPEZ2
import Derived.Test.YtcelfhoomhmioaaPEZ3
import Derived.Test.YtcelfhoomhmioaaPEZ4
import Derived.Test.YtcelfhoomhmioaaPEZ5
import Derived.Test.YtcelfhoomhmioaaPEZ6
import Derived.Test.YtcelfhoomhmioaaPEZ14
set_option maxRecDepth 8192
namespace Go.Proofs.Ytcelfhoomhmioaa.St
open Go Go.RowKit Go.ChangeMaps Go.Proofs.Ytcelfhoomhmioaa.Arr Go.Proofs.Ytcelfhoomhmioaa.Mp Go.Proofs.Ytcelfhoomhmioaa.Ow Go.Proofs.Ytcelfhoomhmioaa.Dk Go.Proofs.YtcelfhoomhmioaaW.PrintWords Go.Proofs.YtcelfhoomhmioaaW.PrintLast Go.Proofs.YtcelfhoomhmioaaW.PrintMore
set_option linter.unusedVariables false
set_option linter.unusedSimpArgs false
theorem pages_calls (d : DS) (g gs : Nat) (base n tk : Int) (S : Nat → Prop) (w : World) (h : SK w S gs g base n tk d) : Calls Try.prog 30 #[.pointer (some ⟨gs, 0, none⟩)] w fun e w' => e = .returned (.int .i64 n) ∧ Below w.heap.size w w' := by
  have c2 := h.c2
  go_enter Try.func30, Try.ntmps30
  go_wp2
  go_ret
  exact ⟨rfl, Below.refl _ _⟩
/-- Whether a store may lie there. -/
def newOk (d : DS) (base n : Int) : Prop := 1 ≤ n ∧ n ≤ 8 ∧ 0 ≤ base ∧ base ≤ (d.safe.length : Int) - (secN n : Int)
theorem snew_calls {N : Nat} (d : DS) (g : Nat) (base n : Int) (S : Nat → Prop) (w : World) (h : DK w S g d) (ho : OkN N d) (hb : base ≤ 1000) (hn : newOk d base n) : Calls Try.prog 26 #[.pointer (some ⟨g, 0, none⟩), .int .i64 base, .int .i64 n] w fun e w' =>
    ∃ gs, e = .returned (.tuple #[.pointer (some ⟨gs, 0, none⟩), .int .i64 0]) ∧ w.heap.size ≤ gs ∧ SK w' (fun k => S k ∧ k ≠ gs) gs g base n 1 d ∧ Below w.heap.size w w' := by
  have HD := Aside0.mk h; have HO := Aside0.mk ho
  obtain ⟨n1, n8, b0, b1⟩ := hn
  have hsn : secN n ≤ 19 := by unfold secN; omega
  have hlen : d.safe.length ≤ 512 := ho.1.2.2.2.1
  have q1 : decide (n < 1) = false := decide_eq_false (by omega)
  have q2 : decide (8 < n) = false := decide_eq_false (by omega)
  have q3 : decide (base < 0) = false := decide_eq_false (by omega)
  have hw : wrap64 ((d.safe.length : Int) - (secN n : Int)) = (d.safe.length : Int) - (secN n : Int) := by unfold wrap64; omega
  have q4 : decide ((d.safe.length : Int) - (secN n : Int) < base) = false := decide_eq_false (by omega)
  have HN8 := Aside0.mk (show 0 ≤ n ∧ n ≤ 1000 by omega)
  clear h ho
  go_enter Try.func26, Try.ntmps26
  go_upto_region 5 with (first | (go_at_call 42; (with_reducible refine (size_calls d g S _ HD.out).mono ?_); rintro e w1 ⟨rfl, hb1⟩; have HD1 := Aside0.mk (HD.out.below hb1); have HB1 := Aside0.mk hb1; clear hb1) | (go_at_call 43; (with_reducible refine (sectors_calls n HN8.out _).mono ?_); rintro e w2 ⟨rfl, hb2⟩; have HD2 := Aside0.mk (HD1.out.below hb2); have HB2 := Aside0.mk (Arr.below_trans HB1.out hb2); clear hb2))
  have HA := Aside0.mk (heap_alloc_new w2 (.cells #[.pointer (some ⟨g, 0, none⟩), .int .i64 base, .int .i64 n, .int .u32 1] TT))
  have hba := (Below.refl w2.heap.size w2).alloc (Nat.le_refl _) (.cells #[.pointer (some ⟨g, 0, none⟩), .int .i64 base, .int .i64 n, .int .u32 1] TT)
  have hsz := HB2.out.size
  go_wp2
  go_ret2
  refine ⟨w2.heap.size, rfl, hsz, ⟨HA.out, fun e => e.2 rfl, (HD2.out.mono fun k hk e => ⟨e, by omega⟩).below hba⟩, Arr.below_trans HB2.out hba⟩
end Go.Proofs.Ytcelfhoomhmioaa.St
