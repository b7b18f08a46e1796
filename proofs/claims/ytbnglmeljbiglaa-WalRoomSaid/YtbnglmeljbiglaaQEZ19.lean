import Derived.Deep.CutBlock
import Derived.Deep.DeepCutAuto
import Derived.Test.YtbnglmeljbiglaaProg
import Derived.Below
import Derived.Deep.Draws
import Derived.Deep.AppendLies
import Derived.Maps.AppendAt
import Derived.OwnWalk
import Derived.Laws.BytesArg
import Derived.Laws.MakeOwn
import Derived.Laws.OwnMore
import Derived.Deep.OwnRows
import Derived.Tactics
import Derived.Lib.ConvBytes
import Derived.Laws.Slices
import Derived.WalkKit
import Derived.KernelRfl
import Derived.RowKit3
import Derived.Deep.LoopGhost
import Derived.Deep.QuietTactic
import Derived.BigQuiet
import Derived.WideLaws
import Derived.Deep.RegionHeld3
import Derived.Laws.Rows
import Derived.Lib.AppendStr
import Derived.ArgAppend
import Derived.Laws.IdiomCopy
import Derived.OrdersHeld
import Derived.Laws.BitsLemmas
import Derived.RowKit
import Derived.Test.YtbnglmeljbiglaaQEZ0
import Derived.Test.YtbnglmeljbiglaaQEZ1
import Derived.Test.YtbnglmeljbiglaaQEZ2
import Derived.Test.YtbnglmeljbiglaaQEZ3
import Derived.Test.YtbnglmeljbiglaaQEZ5
import Derived.Test.YtbnglmeljbiglaaQEZ6
import Derived.Test.YtbnglmeljbiglaaQEZ7
import Derived.Test.YtbnglmeljbiglaaQEZ8
import Derived.Test.YtbnglmeljbiglaaQEZ9
import Derived.Test.YtbnglmeljbiglaaQEZ10
import Derived.Test.YtbnglmeljbiglaaQEZ11
import Derived.Test.YtbnglmeljbiglaaQEZ12
import Derived.Test.YtbnglmeljbiglaaQEZ13
import Derived.Test.YtbnglmeljbiglaaQEZ14
import Derived.Test.YtbnglmeljbiglaaQEZ15
import Derived.Test.YtbnglmeljbiglaaQEZ16
import Derived.Test.YtbnglmeljbiglaaQEZ17
import Derived.Test.YtbnglmeljbiglaaQEZ18
set_option maxRecDepth 8192
namespace Go.Proofs.Ytbnglmeljbiglaa.Wr
open Go.Proofs.Ytbnglmeljbiglaa.Rp Go.Proofs.Ytbnglmeljbiglaa.X4
open Go Go.RowKit Go.ChangeMaps Go.Proofs.Ytbnglmeljbiglaa.Arr Go.Proofs.Ytbnglmeljbiglaa.Ow Go.Proofs.YtbnglmeljbiglaaW.PrintWords Go.Proofs.YtbnglmeljbiglaaW.PrintLast Go.Proofs.YtbnglmeljbiglaaW.PrintMore
set_option linter.unusedVariables false
set_option linter.unusedSimpArgs false
theorem may_calls (r : S37) (A9 : Option Addr) (c9 : Nat) (A10 : Option Addr) (c10 : Nat) (w : World) (h9 : Kd.C k107 w A9 r.f9.length r.f9) (l9 : r.f9.length ≤ c9) (h10 : Kd.C k109 w A10 r.f10.length r.f10) (l10 : r.f10.length ≤ c10) (s9 : r.f9.length ≤ 1000000) (s10 : r.f10.length ≤ 1000000) : Calls Try.prog 26 #[aggR r A9 c9 A10 c10] w fun e w' => e = .returned (.bool (mayB r)) ∧ Below w.heap.size w w' := by
  by_cases e1 : r.f0 = 1
  · exact may_one r A9 c9 A10 c10 w h9 l9 h10 l10 s9 s10 e1
  · by_cases e2 : r.f0 = 2
    · exact may_two r A9 c9 A10 c10 w h9 l9 h10 l10 s9 s10 e2
    · by_cases e3 : r.f0 = 3
      · exact may_three r A9 c9 A10 c10 w h9 l9 h10 l10 s9 s10 e3
      · by_cases e4 : r.f0 = 4
        · exact may_four r A9 c9 A10 c10 w h9 l9 h10 l10 s9 s10 e4
        · by_cases e5 : r.f0 = 5
          · exact may_five r A9 c9 A10 c10 w h9 l9 h10 l10 s9 s10 e5
          · by_cases e6 : r.f0 = 6
            · exact may_six r A9 c9 A10 c10 w h9 l9 h10 l10 s9 s10 e6
            · exact may_none r A9 c9 A10 c10 w h9 l9 h10 l10 s9 s10 ⟨e1, e2, by omega, e5, e6⟩
end Go.Proofs.Ytbnglmeljbiglaa.Wr
set_option maxRecDepth 8192
namespace Go.Proofs.Ytbnglmeljbiglaa.X4
open Go Go.RowKit Go.Proofs.YtbnglmeljbiglaaW.PrintWords Go.Proofs.Ytbnglmeljbiglaa.Rp
set_option linter.unusedVariables false
def careenref04_May.f (a0_0 : Int) (a0_1 : Int) (a0_2 : Int) (a0_3 : Int) (a0_4 : Int) (a0_5 : Int) (a0_6 : Int) (a0_7 : ByteArray) (a0_8 : ByteArray) (l0_9 : List S107) (l0_10 : List S109) : Option Bool := if l0_9.length ≤ 1000000 ∧ l0_10.length ≤ 1000000 then some (mayB (⟨a0_0, a0_1, a0_2, a0_3, a0_4, a0_5, a0_6, a0_7, a0_8, l0_9, l0_10⟩ : S37)) else none
theorem careenref04_May.calls (a0_0 : Int) (a0_1 : Int) (a0_2 : Int) (a0_3 : Int) (a0_4 : Int) (a0_5 : Int) (a0_6 : Int) (a0_7 : ByteArray) (a0_8 : ByteArray) (A0_9 : Option Addr) (c0_9 : Nat) (l0_9 : List S107) (A0_10 : Option Addr) (c0_10 : Nat) (l0_10 : List S109) (r : Bool) (w : World) (hr0_9 : Kd.C k107 w A0_9 l0_9.length l0_9) (hc0_9 : l0_9.length ≤ c0_9) (hr0_10 : Kd.C k109 w A0_10 l0_10.length l0_10) (hc0_10 : l0_10.length ≤ c0_10) (h : careenref04_May.f a0_0 a0_1 a0_2 a0_3 a0_4 a0_5 a0_6 a0_7 a0_8 l0_9 l0_10 = some r) :
    Calls Try.prog 26 #[.agg #[.int .i64 a0_0, .int .i64 a0_1, .int .i64 a0_2, .int .i64 a0_3, .int .i64 a0_4, .int .i64 a0_5, .int .i64 a0_6, .string a0_7, .string a0_8, .slice A0_9 l0_9.length c0_9, .slice A0_10 l0_10.length c0_10]] w fun e w' => e = .returned (.bool r) ∧ Below w.heap.size w w' := by
  unfold careenref04_May.f at h
  by_cases c : l0_9.length ≤ 1000000 ∧ l0_10.length ≤ 1000000
  · rw [if_pos c] at h
    have k := Wr.may_calls (⟨a0_0, a0_1, a0_2, a0_3, a0_4, a0_5, a0_6, a0_7, a0_8, l0_9, l0_10⟩ : S37) A0_9 c0_9 A0_10 c0_10 w hr0_9 hc0_9 hr0_10 hc0_10 c.1 c.2
    rw [Option.some.inj h] at k
    exact k
  · rw [if_neg c] at h; cases h
def record_Read.f (a0 : ByteArray) (a1 : Int) : Option (Int × Int × Int × Int × Int × Int × Int × ByteArray × ByteArray × List S107 × List S109 × Int × Int) := if a0.size ≤ 1000000 then some ((Wr.readF a0 a1).1.f0, (Wr.readF a0 a1).1.f1, (Wr.readF a0 a1).1.f2, (Wr.readF a0 a1).1.f3, (Wr.readF a0 a1).1.f4, (Wr.readF a0 a1).1.f5, (Wr.readF a0 a1).1.f6, (Wr.readF a0 a1).1.f7, (Wr.readF a0 a1).1.f8, (Wr.readF a0 a1).1.f9, (Wr.readF a0 a1).1.f10, (Wr.readF a0 a1).2.1, (Wr.readF a0 a1).2.2) else none
theorem record_Read.calls (a0 : ByteArray) (a1 : Int) (r1 : Int) (r2 : Int) (r3 : Int) (r4 : Int) (r5 : Int) (r6 : Int) (r7 : Int) (r8 : ByteArray) (r9 : ByteArray) (r10 : List S107) (r11 : List S109) (r12 : Int) (r13 : Int) (w : World) (h : record_Read.f a0 a1 = some (r1, r2, r3, r4, r5, r6, r7, r8, r9, r10, r11, r12, r13)) :
    Calls Try.prog 88 #[.string a0, .int .i64 a1] w fun e w' => ∃ v9_ v10_ : Value, e = .returned (.tuple #[.agg #[.int .i64 r1, .int .i64 r2, .int .i64 r3, .int .i64 r4, .int .i64 r5, .int .i64 r6, .int .i64 r7, .string r8, .string r9, v9_, v10_], .int .i64 r12, .int .i64 r13]) ∧ Kd.R k107 107 w' w.heap.size (fun _ => True) v9_ r10 ∧ Kd.R k109 109 w' w.heap.size (fun _ => True) v10_ r11 ∧ Below w.heap.size w w' := by
  unfold record_Read.f at h
  by_cases c : a0.size ≤ 1000000
  · rw [if_pos c] at h
    injection h with h
    simp only [Prod.mk.injEq] at h
    obtain ⟨rfl, rfl, rfl, rfl, rfl, rfl, rfl, rfl, rfl, rfl, rfl, rfl, rfl⟩ := h
    exact Wr.read_calls a0 a1 w c
  · rw [if_neg c] at h; cases h
end Go.Proofs.Ytbnglmeljbiglaa.X4
set_option maxRecDepth 8192
namespace Go.Proofs.Ytbnglmeljbiglaa.Pt
open Go Go.RowKit Go.Proofs.YtbnglmeljbiglaaW.PrintWords Go.Proofs.Ytbnglmeljbiglaa.X4 Go.Proofs.Ytbnglmeljbiglaa.Rp Go.Proofs.Ytbnglmeljbiglaa.Wr
set_option linter.unusedVariables false
set_option linter.unusedSimpArgs false
theorem read_f {s : ByteArray} {p : Int} (h : s.size ≤ 1000000) : record_Read.f s p = some ((readF s p).1.f0, (readF s p).1.f1, (readF s p).1.f2, (readF s p).1.f3, (readF s p).1.f4, (readF s p).1.f5, (readF s p).1.f6, (readF s p).1.f7, (readF s p).1.f8, (readF s p).1.f9, (readF s p).1.f10, (readF s p).2.1, (readF s p).2.2) := by
  unfold record_Read.f
  rw [if_pos h]
end Go.Proofs.Ytbnglmeljbiglaa.Pt
-- Written by this session's xprint.py (the kit's print, with contracts proved by hand).
namespace Go.Proofs.Ytbnglmeljbiglaa.X4b
open Go.Proofs.Ytbnglmeljbiglaa.X4 Go.RowKit Go.Proofs.YtbnglmeljbiglaaW.PrintWords Go.Proofs.YtbnglmeljbiglaaW.PrintLast Go.Proofs.YtbnglmeljbiglaaW.PrintMore
attribute [local go_sem] max2_int min2_int max_two min_two max_three min_three max_four min_four   -- for this text's walks alone
set_option linter.unusedVariables false
set_option linter.unusedSimpArgs false
theorem info44 : (Try.prog.info? 44).map (fun i => (i.zero, i.size, i.bytes)) = some (some (.agg #[(.int .i64 0), (.int .i64 0), (.int .i64 0), (.int .i64 0), (.int .i64 0), (.int .i64 0), (.int .i64 0), (.int .i64 0), (.string ⟨#[]⟩), (.string ⟨#[]⟩), (.slice none 0 0), (.slice none 0 0)]), 12, 144) := by kernel_rfl
end Go.Proofs.Ytbnglmeljbiglaa.X4b
-- Written by this session's xprint.py (the kit's print, with contracts proved by hand).
namespace Go.Proofs.Ytbnglmeljbiglaa.X4b
open Go.Proofs.Ytbnglmeljbiglaa.X4 Go.RowKit Go.Proofs.YtbnglmeljbiglaaW.PrintWords Go.Proofs.YtbnglmeljbiglaaW.PrintLast Go.Proofs.YtbnglmeljbiglaaW.PrintMore
attribute [local go_sem] max2_int min2_int max_two min_two max_three min_three max_four min_four   -- for this text's walks alone
set_option linter.unusedVariables false
set_option linter.unusedSimpArgs false
theorem eqA107 (d : Nat) (w : World) (x0 y0 : Int) (x1 y1 : Int) (x2 y2 : Int) :
    (Op.equalIn (d + 2) 107 (.agg #[.int .i64 x0, .int .i64 x1, .int .i64 x2]) (.agg #[.int .i64 y0, .int .i64 y1, .int .i64 y2])).run Try.prog w = .ok (x0 == y0 && (x1 == y1 && (x2 == y2))) w := by
  refine eqA_of Try.underlying107 (by kernel_rfl) ?_
  refine eqf_cons (by rfl) (by go_simp; rfl) (by go_simp; rfl) (by go_simp) ?_
  refine eqf_cons (by rfl) (by go_simp; rfl) (by go_simp; rfl) (by go_simp) ?_
  exact eqf_last (by rfl) (by go_simp; rfl) (by go_simp; rfl) (by go_simp)
end Go.Proofs.Ytbnglmeljbiglaa.X4b
-- Written by this session's xprint.py (the kit's print, with contracts proved by hand).
namespace Go.Proofs.Ytbnglmeljbiglaa.X4b
open Go.Proofs.Ytbnglmeljbiglaa.X4 Go.RowKit Go.Proofs.YtbnglmeljbiglaaW.PrintWords Go.Proofs.YtbnglmeljbiglaaW.PrintLast Go.Proofs.YtbnglmeljbiglaaW.PrintMore
attribute [local go_sem] max2_int min2_int max_two min_two max_three min_three max_four min_four   -- for this text's walks alone
set_option linter.unusedVariables false
set_option linter.unusedSimpArgs false
theorem eqA109 (d : Nat) (w : World) (x0 y0 : Int) (x1 y1 : Int) :
    (Op.equalIn (d + 2) 109 (.agg #[.int .i64 x0, .int .i64 x1]) (.agg #[.int .i64 y0, .int .i64 y1])).run Try.prog w = .ok (x0 == y0 && (x1 == y1)) w := by
  refine eqA_of Try.underlying109 (by kernel_rfl) ?_
  refine eqf_cons (by rfl) (by go_simp; rfl) (by go_simp; rfl) (by go_simp) ?_
  exact eqf_last (by rfl) (by go_simp; rfl) (by go_simp; rfl) (by go_simp)
end Go.Proofs.Ytbnglmeljbiglaa.X4b
