import Derived.Test.YtcfknakmamcinaaProg
import Derived.Below
import Derived.Deep.Draws
import Derived.Deep.AppendLies
import Derived.Maps.AppendAt
import Derived.OwnWalk
import Derived.Laws.BytesArg
import Derived.Laws.MakeOwn
import Derived.Laws.OwnMore
import Derived.Deep.OwnRows
import Derived.Tactics
import Derived.Lib.ConvBytes
import Derived.Laws.Slices
import Derived.WalkKit
import Derived.KernelRfl
import Derived.RowKit3
import Derived.Deep.LoopGhost
import Derived.Deep.QuietTactic
import Derived.BigQuiet
import Derived.WideLaws
import Derived.Deep.DeepCutAuto
import Derived.Deep.CutBlock
import Derived.Deep.RegionHeld3
import Derived.Laws.Rows
import Derived.Lib.AppendStr
import Derived.ArgAppend
import Derived.Laws.IdiomCopy
import Derived.OrdersHeld
import Derived.Laws.BitsLemmas
import Derived.RowKit
import Derived.Test.YtcfknakmamcinaaQCZ0
import Derived.Test.YtcfknakmamcinaaQCZ1
import Derived.Test.YtcfknakmamcinaaQCZ2
import Derived.Test.YtcfknakmamcinaaQCZ3
import Derived.Test.YtcfknakmamcinaaQCZ4
import Derived.Test.YtcfknakmamcinaaQCZ5
import Derived.Test.YtcfknakmamcinaaQCZ6
import Derived.Test.YtcfknakmamcinaaQCZ7
import Derived.Test.YtcfknakmamcinaaQCZ8
import Derived.Test.YtcfknakmamcinaaQCZ9
import Derived.Test.YtcfknakmamcinaaQCZ10
import Derived.Test.YtcfknakmamcinaaQCZ11
import Derived.Test.YtcfknakmamcinaaQCZ12
import Derived.Test.YtcfknakmamcinaaQCZ13
import Derived.Test.YtcfknakmamcinaaQCZ14
import Derived.Test.YtcfknakmamcinaaQCZ15
import Derived.Test.YtcfknakmamcinaaQCZ16
import Derived.Test.YtcfknakmamcinaaQCZ17
import Derived.Test.YtcfknakmamcinaaQCZ18
import Derived.Test.YtcfknakmamcinaaQCZ19
import Derived.Test.YtcfknakmamcinaaQCZ20
namespace Go.Proofs.Ytcfknakmamcinaa.Wr
open Go.Proofs.Ytcfknakmamcinaa.Rp Go.Proofs.Ytcfknakmamcinaa.X4
open Go Go.RowKit Go.ChangeMaps Go.Proofs.Ytcfknakmamcinaa.Arr Go.Proofs.Ytcfknakmamcinaa.Ow Go.Proofs.YtcfknakmamcinaaW.PrintWords Go.Proofs.YtcfknakmamcinaaW.PrintLast Go.Proofs.YtcfknakmamcinaaW.PrintMore
set_option linter.unusedVariables false
set_option linter.unusedSimpArgs false
set_option maxHeartbeats 4000000 in
set_option maxRecDepth 100000 in
theorem rr_early (s : ByteArray) (p : Int) (w : World) (hp : p < 0 ∨ (s.size : Int) < p) : Calls Try.prog 19 #[.string s, .int .i64 p] w fun x w' => AfterRR s p w x w' := by
  have HRF := Aside0.mk (show rreadF s p = (Rp.zR, 0, 2) by unfold rreadF; rw [if_pos hp])
  have hcase : decide (p < 0) = true ∨ (decide (p < 0) = false ∧ decide ((s.size : Int) < p) = true) := by
    by_cases h0 : p < 0
    · exact .inl (decide_eq_true h0)
    · exact .inr ⟨decide_eq_false h0, decide_eq_true (by omega)⟩
  clear hp
  rcases hcase with t1 | ⟨t1, t2⟩
  all_goals
    go_enter Try.func19, Try.ntmps19
    go_wp2
    refine bodyPost_ret (v := .tuple #[.agg #[.int .i64 0, .int .i64 0, .int .i64 0, .int .i64 0, .int .i64 0, .int .i64 0, .int .i64 0, .string ⟨#[]⟩, .string ⟨#[]⟩, .slice none 0 0, .slice none 0 0], .int .i64 0, .int .i64 2]) (by simp [results, Try.results19, go_sem]) rfl ?_
    show AfterRR s p w _ _
    unfold AfterRR
    rw [HRF.out]
    exact ⟨_, _, rfl, Kd.R_nil _ _ _ _ _, Kd.R_nil _ _ _ _ _, (Below.refl w.heap.size w).alloc (Nat.le_refl _) (.cells #[.int .i64 0, .int .i64 0, .int .i64 0, .int .i64 0, .int .i64 0, .int .i64 0, .int .i64 0, .string ⟨#[]⟩, .string ⟨#[]⟩, .slice none 0 0, .slice none 0 0] 25)⟩
theorem rread_calls (s : ByteArray) (p : Int) (w : World) (hs : s.size ≤ 1000000) : Calls Try.prog 19 #[.string s, .int .i64 p] w fun x w' => AfterRR s p w x w' := by
  by_cases hp : p < 0 ∨ (s.size : Int) < p
  · exact rr_early s p w hp
  · obtain ⟨n, rfl⟩ : ∃ n : Nat, p = (n : Int) := ⟨p.toNat, by omega⟩
    have hn : n ≤ s.size := by omega
    obtain ⟨v, x1, h0⟩ : ∃ v x1, smallI (s.extract n s.size, false) = (v, x1) := ⟨_, _, rfl⟩
    by_cases e1 : v = 1
    · subst e1; exact rr_one s n x1 w hs hn h0
    · by_cases e2 : v = 2
      · subst e2; exact rr_two s n x1 w hs hn h0
      · by_cases e3 : v = 3
        · subst e3; exact rr_three s n x1 w hs hn h0
        · by_cases e4 : v = 4
          · subst e4; exact rr_four s n x1 w hs hn h0
          · by_cases e6 : v = 6
            · subst e6; exact rr_six s n x1 w hs hn h0
            · exact rr_none s n x1 v ⟨e1, e2, by omega, e6⟩ w hs hn h0
end Go.Proofs.Ytcfknakmamcinaa.Wr
namespace Go.Proofs.Ytcfknakmamcinaa.X4
open Go Go.RowKit Go.Proofs.YtcfknakmamcinaaW.PrintWords Go.Proofs.Ytcfknakmamcinaa.Rp
set_option linter.unusedVariables false
def record_Print.f (a0_0 : Int) (a0_1 : Int) (a0_2 : Int) (a0_3 : Int) (a0_4 : Int) (a0_5 : Int) (a0_6 : Int) (a0_7 : ByteArray) (a0_8 : ByteArray) (l0_9 : List S66) (l0_10 : List S68) : Option (ByteArray × Int) := if a0_8.size ≤ 1000000 then some (printF (⟨a0_0, a0_1, a0_2, a0_3, a0_4, a0_5, a0_6, a0_7, a0_8, l0_9, l0_10⟩ : S25)) else none
theorem record_Print.calls (a0_0 : Int) (a0_1 : Int) (a0_2 : Int) (a0_3 : Int) (a0_4 : Int) (a0_5 : Int) (a0_6 : Int) (a0_7 : ByteArray) (a0_8 : ByteArray) (A0_9 : Option Addr) (c0_9 : Nat) (l0_9 : List S66) (A0_10 : Option Addr) (c0_10 : Nat) (l0_10 : List S68) (r1 : ByteArray) (r2 : Int) (w : World) (hr0_9 : Kd.C k66 w A0_9 l0_9.length l0_9) (hc0_9 : l0_9.length ≤ c0_9) (hr0_10 : Kd.C k68 w A0_10 l0_10.length l0_10) (hc0_10 : l0_10.length ≤ c0_10) (h : record_Print.f a0_0 a0_1 a0_2 a0_3 a0_4 a0_5 a0_6 a0_7 a0_8 l0_9 l0_10 = some (r1, r2)) :
    Calls Try.prog 13 #[.agg #[.int .i64 a0_0, .int .i64 a0_1, .int .i64 a0_2, .int .i64 a0_3, .int .i64 a0_4, .int .i64 a0_5, .int .i64 a0_6, .string a0_7, .string a0_8, .slice A0_9 l0_9.length c0_9, .slice A0_10 l0_10.length c0_10]] w fun e w' => e = .returned (.tuple #[.string r1, .int .i64 r2]) ∧ Below w.heap.size w w' := by
  unfold record_Print.f at h
  by_cases c : a0_8.size ≤ 1000000
  · rw [if_pos c] at h
    have k := Wr.print_calls (⟨a0_0, a0_1, a0_2, a0_3, a0_4, a0_5, a0_6, a0_7, a0_8, l0_9, l0_10⟩ : S25) A0_9 c0_9 A0_10 c0_10 w hr0_9 hc0_9 hr0_10 hc0_10 c
    rw [Option.some.inj h] at k
    exact k
  · rw [if_neg c] at h; cases h
def careenref04_Same.f (a0_0 : Int) (a0_1 : Int) (a0_2 : Int) (a0_3 : Int) (a0_4 : Int) (a0_5 : Int) (a0_6 : Int) (a0_7 : ByteArray) (a0_8 : ByteArray) (l0_9 : List S66) (l0_10 : List S68) (a1_0 : Int) (a1_1 : Int) (a1_2 : Int) (a1_3 : Int) (a1_4 : Int) (a1_5 : Int) (a1_6 : Int) (a1_7 : ByteArray) (a1_8 : ByteArray) (l1_9 : List S66) (l1_10 : List S68) : Option Bool := if l0_9.length ≤ 1000000 ∧ l0_10.length ≤ 1000000 then some (decide ((⟨a0_0, a0_1, a0_2, a0_3, a0_4, a0_5, a0_6, a0_7, a0_8, l0_9, l0_10⟩ : S25) = (⟨a1_0, a1_1, a1_2, a1_3, a1_4, a1_5, a1_6, a1_7, a1_8, l1_9, l1_10⟩ : S25))) else none
theorem careenref04_Same.calls (a0_0 : Int) (a0_1 : Int) (a0_2 : Int) (a0_3 : Int) (a0_4 : Int) (a0_5 : Int) (a0_6 : Int) (a0_7 : ByteArray) (a0_8 : ByteArray) (A0_9 : Option Addr) (c0_9 : Nat) (l0_9 : List S66) (A0_10 : Option Addr) (c0_10 : Nat) (l0_10 : List S68) (a1_0 : Int) (a1_1 : Int) (a1_2 : Int) (a1_3 : Int) (a1_4 : Int) (a1_5 : Int) (a1_6 : Int) (a1_7 : ByteArray) (a1_8 : ByteArray) (A1_9 : Option Addr) (c1_9 : Nat) (l1_9 : List S66) (A1_10 : Option Addr) (c1_10 : Nat) (l1_10 : List S68) (r : Bool) (w : World) (hr0_9 : Kd.C k66 w A0_9 l0_9.length l0_9) (hc0_9 : l0_9.length ≤ c0_9) (hr0_10 : Kd.C k68 w A0_10 l0_10.length l0_10) (hc0_10 : l0_10.length ≤ c0_10) (hr1_9 : Kd.C k66 w A1_9 l1_9.length l1_9) (hc1_9 : l1_9.length ≤ c1_9) (hr1_10 : Kd.C k68 w A1_10 l1_10.length l1_10) (hc1_10 : l1_10.length ≤ c1_10) (h : careenref04_Same.f a0_0 a0_1 a0_2 a0_3 a0_4 a0_5 a0_6 a0_7 a0_8 l0_9 l0_10 a1_0 a1_1 a1_2 a1_3 a1_4 a1_5 a1_6 a1_7 a1_8 l1_9 l1_10 = some r) :
    Calls Try.prog 17 #[.agg #[.int .i64 a0_0, .int .i64 a0_1, .int .i64 a0_2, .int .i64 a0_3, .int .i64 a0_4, .int .i64 a0_5, .int .i64 a0_6, .string a0_7, .string a0_8, .slice A0_9 l0_9.length c0_9, .slice A0_10 l0_10.length c0_10], .agg #[.int .i64 a1_0, .int .i64 a1_1, .int .i64 a1_2, .int .i64 a1_3, .int .i64 a1_4, .int .i64 a1_5, .int .i64 a1_6, .string a1_7, .string a1_8, .slice A1_9 l1_9.length c1_9, .slice A1_10 l1_10.length c1_10]] w fun e w' => e = .returned (.bool r) ∧ Below w.heap.size w w' := by
  unfold careenref04_Same.f at h
  by_cases c : l0_9.length ≤ 1000000 ∧ l0_10.length ≤ 1000000
  · rw [if_pos c] at h
    have k := Sa.rsame_calls (⟨a0_0, a0_1, a0_2, a0_3, a0_4, a0_5, a0_6, a0_7, a0_8, l0_9, l0_10⟩ : S25) (⟨a1_0, a1_1, a1_2, a1_3, a1_4, a1_5, a1_6, a1_7, a1_8, l1_9, l1_10⟩ : S25) A0_9 c0_9 A0_10 c0_10 A1_9 c1_9 A1_10 c1_10 w hr0_9 hr0_10 hr1_9 hr1_10 c.1 c.2
    rw [Option.some.inj h] at k
    exact k
  · rw [if_neg c] at h; cases h
def record_Read.f (a0 : ByteArray) (a1 : Int) : Option (Int × Int × Int × Int × Int × Int × Int × ByteArray × ByteArray × List S66 × List S68 × Int × Int) := if a0.size ≤ 1000000 then some ((Wr.readF a0 a1).1.f0, (Wr.readF a0 a1).1.f1, (Wr.readF a0 a1).1.f2, (Wr.readF a0 a1).1.f3, (Wr.readF a0 a1).1.f4, (Wr.readF a0 a1).1.f5, (Wr.readF a0 a1).1.f6, (Wr.readF a0 a1).1.f7, (Wr.readF a0 a1).1.f8, (Wr.readF a0 a1).1.f9, (Wr.readF a0 a1).1.f10, (Wr.readF a0 a1).2.1, (Wr.readF a0 a1).2.2) else none
theorem record_Read.calls (a0 : ByteArray) (a1 : Int) (r1 : Int) (r2 : Int) (r3 : Int) (r4 : Int) (r5 : Int) (r6 : Int) (r7 : Int) (r8 : ByteArray) (r9 : ByteArray) (r10 : List S66) (r11 : List S68) (r12 : Int) (r13 : Int) (w : World) (h : record_Read.f a0 a1 = some (r1, r2, r3, r4, r5, r6, r7, r8, r9, r10, r11, r12, r13)) :
    Calls Try.prog 16 #[.string a0, .int .i64 a1] w fun e w' => ∃ v9_ v10_ : Value, e = .returned (.tuple #[.agg #[.int .i64 r1, .int .i64 r2, .int .i64 r3, .int .i64 r4, .int .i64 r5, .int .i64 r6, .int .i64 r7, .string r8, .string r9, v9_, v10_], .int .i64 r12, .int .i64 r13]) ∧ Kd.R k66 66 w' w.heap.size (fun _ => True) v9_ r10 ∧ Kd.R k68 68 w' w.heap.size (fun _ => True) v10_ r11 ∧ Below w.heap.size w w' := by
  unfold record_Read.f at h
  by_cases c : a0.size ≤ 1000000
  · rw [if_pos c] at h
    injection h with h
    simp only [Prod.mk.injEq] at h
    obtain ⟨rfl, rfl, rfl, rfl, rfl, rfl, rfl, rfl, rfl, rfl, rfl, rfl, rfl⟩ := h
    exact Wr.read_calls a0 a1 w c
  · rw [if_neg c] at h; cases h
def careenref04_Read.f (a0 : ByteArray) (a1 : Int) : Option (Int × Int × Int × Int × Int × Int × Int × ByteArray × ByteArray × List S66 × List S68 × Int × Int) := if a0.size ≤ 1000000 then some ((rreadF a0 a1).1.f0, (rreadF a0 a1).1.f1, (rreadF a0 a1).1.f2, (rreadF a0 a1).1.f3, (rreadF a0 a1).1.f4, (rreadF a0 a1).1.f5, (rreadF a0 a1).1.f6, (rreadF a0 a1).1.f7, (rreadF a0 a1).1.f8, (rreadF a0 a1).1.f9, (rreadF a0 a1).1.f10, (rreadF a0 a1).2.1, (rreadF a0 a1).2.2) else none
theorem careenref04_Read.calls (a0 : ByteArray) (a1 : Int) (r1 : Int) (r2 : Int) (r3 : Int) (r4 : Int) (r5 : Int) (r6 : Int) (r7 : Int) (r8 : ByteArray) (r9 : ByteArray) (r10 : List S66) (r11 : List S68) (r12 : Int) (r13 : Int) (w : World) (h : careenref04_Read.f a0 a1 = some (r1, r2, r3, r4, r5, r6, r7, r8, r9, r10, r11, r12, r13)) :
    Calls Try.prog 19 #[.string a0, .int .i64 a1] w fun e w' => ∃ v9_ v10_ : Value, e = .returned (.tuple #[.agg #[.int .i64 r1, .int .i64 r2, .int .i64 r3, .int .i64 r4, .int .i64 r5, .int .i64 r6, .int .i64 r7, .string r8, .string r9, v9_, v10_], .int .i64 r12, .int .i64 r13]) ∧ Kd.R k66 66 w' w.heap.size (fun _ => True) v9_ r10 ∧ Kd.R k68 68 w' w.heap.size (fun _ => True) v10_ r11 ∧ Below w.heap.size w w' := by
  unfold careenref04_Read.f at h
  by_cases c : a0.size ≤ 1000000
  · rw [if_pos c] at h
    injection h with h
    simp only [Prod.mk.injEq] at h
    obtain ⟨rfl, rfl, rfl, rfl, rfl, rfl, rfl, rfl, rfl, rfl, rfl, rfl, rfl⟩ := h
    exact Wr.rread_calls a0 a1 w c
  · rw [if_neg c] at h; cases h
end Go.Proofs.Ytcfknakmamcinaa.X4
namespace Go.Proofs.Ytcfknakmamcinaa.Pt
open Go Go.RowKit Go.Proofs.YtcfknakmamcinaaW.PrintWords Go.Proofs.Ytcfknakmamcinaa.X4 Go.Proofs.Ytcfknakmamcinaa.Rp Go.Proofs.Ytcfknakmamcinaa.Wr
set_option linter.unusedVariables false
set_option linter.unusedSimpArgs false
theorem rsame_f {a b : S25} (h : a.f9.length ≤ 1000000) (h2 : a.f10.length ≤ 1000000) : careenref04_Same.f a.f0 a.f1 a.f2 a.f3 a.f4 a.f5 a.f6 a.f7 a.f8 a.f9 a.f10 b.f0 b.f1 b.f2 b.f3 b.f4 b.f5 b.f6 b.f7 b.f8 b.f9 b.f10 = some (decide (a = b)) := by
  unfold careenref04_Same.f
  rw [if_pos ⟨h, h2⟩]
theorem read_f {s : ByteArray} {p : Int} (h : s.size ≤ 1000000) : record_Read.f s p = some ((readF s p).1.f0, (readF s p).1.f1, (readF s p).1.f2, (readF s p).1.f3, (readF s p).1.f4, (readF s p).1.f5, (readF s p).1.f6, (readF s p).1.f7, (readF s p).1.f8, (readF s p).1.f9, (readF s p).1.f10, (readF s p).2.1, (readF s p).2.2) := by
  unfold record_Read.f
  rw [if_pos h]
theorem rread_f {s : ByteArray} {p : Int} (h : s.size ≤ 1000000) : careenref04_Read.f s p = some ((readF s p).1.f0, (readF s p).1.f1, (readF s p).1.f2, (readF s p).1.f3, (readF s p).1.f4, (readF s p).1.f5, (readF s p).1.f6, (readF s p).1.f7, (readF s p).1.f8, (readF s p).1.f9, (readF s p).1.f10, (readF s p).2.1, (readF s p).2.2) := by
  unfold careenref04_Read.f
  rw [if_pos h, rread_eq]
theorem may_small {r : S25} {bs : List UInt8} (h : recP r = some bs) (ho : ownR r = r) : r.f9.length ≤ 8 ∧ r.f10.length ≤ 8 ∧ r.f8.size ≤ 300 := rows_le ((may_iff r).2 ⟨⟨bs, h⟩, ho⟩)
end Go.Proofs.Ytcfknakmamcinaa.Pt
-- Written by this session's xprint.py (the kit's print, with contracts proved by hand).
namespace Go.Proofs.Ytcfknakmamcinaa.X4r
open Go.Proofs.Ytcfknakmamcinaa.X4 Go.RowKit Go.Proofs.YtcfknakmamcinaaW.PrintWords Go.Proofs.YtcfknakmamcinaaW.PrintLast Go.Proofs.YtcfknakmamcinaaW.PrintMore
attribute [local go_sem] max2_int min2_int max_two min_two max_three min_three max_four min_four   -- for this text's walks alone
set_option linter.unusedVariables false
set_option linter.unusedSimpArgs false
theorem info49 : (Try.prog.info? 49).map (fun i => (i.zero, i.size, i.bytes)) = some (some (.agg #[(.int .i64 0), (.int .i64 0), (.int .i64 0), (.int .i64 0), (.int .i64 0), (.int .i64 0), (.int .i64 0), (.int .i64 0), (.string ⟨#[]⟩), (.string ⟨#[]⟩), (.slice none 0 0), (.slice none 0 0)]), 12, 144) := by kernel_rfl
end Go.Proofs.Ytcfknakmamcinaa.X4r
-- Written by this session's xprint.py (the kit's print, with contracts proved by hand).
namespace Go.Proofs.Ytcfknakmamcinaa.X4r
open Go.Proofs.Ytcfknakmamcinaa.X4 Go.RowKit Go.Proofs.YtcfknakmamcinaaW.PrintWords Go.Proofs.YtcfknakmamcinaaW.PrintLast Go.Proofs.YtcfknakmamcinaaW.PrintMore
attribute [local go_sem] max2_int min2_int max_two min_two max_three min_three max_four min_four   -- for this text's walks alone
set_option linter.unusedVariables false
set_option linter.unusedSimpArgs false
theorem eqA66 (d : Nat) (w : World) (x0 y0 : Int) (x1 y1 : Int) (x2 y2 : Int) :
    (Op.equalIn (d + 2) 66 (.agg #[.int .i64 x0, .int .i64 x1, .int .i64 x2]) (.agg #[.int .i64 y0, .int .i64 y1, .int .i64 y2])).run Try.prog w = .ok (x0 == y0 && (x1 == y1 && (x2 == y2))) w := by
  refine eqA_of Try.underlying66 (by kernel_rfl) ?_
  refine eqf_cons (by rfl) (by go_simp; rfl) (by go_simp; rfl) (by go_simp) ?_
  refine eqf_cons (by rfl) (by go_simp; rfl) (by go_simp; rfl) (by go_simp) ?_
  exact eqf_last (by rfl) (by go_simp; rfl) (by go_simp; rfl) (by go_simp)
end Go.Proofs.Ytcfknakmamcinaa.X4r
-- Written by this session's xprint.py (the kit's print, with contracts proved by hand).
namespace Go.Proofs.Ytcfknakmamcinaa.X4r
open Go.Proofs.Ytcfknakmamcinaa.X4 Go.RowKit Go.Proofs.YtcfknakmamcinaaW.PrintWords Go.Proofs.YtcfknakmamcinaaW.PrintLast Go.Proofs.YtcfknakmamcinaaW.PrintMore
attribute [local go_sem] max2_int min2_int max_two min_two max_three min_three max_four min_four   -- for this text's walks alone
set_option linter.unusedVariables false
set_option linter.unusedSimpArgs false
theorem eqA68 (d : Nat) (w : World) (x0 y0 : Int) (x1 y1 : Int) :
    (Op.equalIn (d + 2) 68 (.agg #[.int .i64 x0, .int .i64 x1]) (.agg #[.int .i64 y0, .int .i64 y1])).run Try.prog w = .ok (x0 == y0 && (x1 == y1)) w := by
  refine eqA_of Try.underlying68 (by kernel_rfl) ?_
  refine eqf_cons (by rfl) (by go_simp; rfl) (by go_simp; rfl) (by go_simp) ?_
  exact eqf_last (by rfl) (by go_simp; rfl) (by go_simp; rfl) (by go_simp)
end Go.Proofs.Ytcfknakmamcinaa.X4r
