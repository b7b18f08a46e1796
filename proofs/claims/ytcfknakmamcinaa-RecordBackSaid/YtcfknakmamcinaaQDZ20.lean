import Derived.Test.YtcfknakmamcinaaRows
import Derived.WalkKit
import Derived.ProofKit
import Derived.OpenShut
import Derived.ShutString
import Derived.ChangeOld
import Derived.Below
import Derived.SizedLaws
import Derived.Test.YtcfknakmamcinaaQDZ0
import Derived.Test.YtcfknakmamcinaaQDZ1
import Derived.Test.YtcfknakmamcinaaQDZ2
import Derived.Test.YtcfknakmamcinaaQDZ3
import Derived.Test.YtcfknakmamcinaaQDZ4
import Derived.Test.YtcfknakmamcinaaQDZ5
import Derived.Test.YtcfknakmamcinaaQDZ6
import Derived.Test.YtcfknakmamcinaaQDZ7
import Derived.Test.YtcfknakmamcinaaQDZ8
import Derived.Test.YtcfknakmamcinaaQDZ9
import Derived.Test.YtcfknakmamcinaaQDZ10
import Derived.Test.YtcfknakmamcinaaQDZ11
import Derived.Test.YtcfknakmamcinaaQDZ12
import Derived.Test.YtcfknakmamcinaaQDZ13
import Derived.Test.YtcfknakmamcinaaQDZ14
import Derived.Test.YtcfknakmamcinaaQDZ15
import Derived.Test.YtcfknakmamcinaaQDZ16
import Derived.Test.YtcfknakmamcinaaQDZ17
import Derived.Test.YtcfknakmamcinaaQDZ19
namespace Go.Proofs.Ytcfknakmamcinaa.X4b.RowRecordBack
open Go.Proofs.Ytcfknakmamcinaa.X4 Go.ChangeShapes Go.WideShapes Go.ChangeAt Go.RowKit Go.Proofs.Ytcfknakmamcinaa.Opens Go.Proofs.YtcfknakmamcinaaW.PrintWords
open Go.ChangeMaps (open_string shut_string)
set_option linter.unusedVariables false
theorem own : ownKnob Try.prog.godebug = none := by kernel_rfl
theorem laidOut : laidOutB Try.prog = true := by kernel_rfl
def W66 (x : S66) : Prop := (Lit.int .i64 x.f0).wf = true ∧ (Lit.int .i64 x.f1).wf = true ∧ (Lit.int .i64 x.f2).wf = true
set_option maxRecDepth 100000 in
theorem opens66 : Opens Try.prog 66 k66 W66 := opens_iso (opens_struct Try.underlying66 (by kernel_rfl) (by kernel_rfl) (opensF_cons (opens_int Try.underlying3) (opensF_cons (opens_int Try.underlying3) (opensF_one (opens_int Try.underlying3))))) (fun x : S66 => (x.f0, x.f1, x.f2)) (fun p => ⟨p.1, p.2.1, p.2.2⟩) (fun _ => rfl)
def W68 (x : S68) : Prop := (Lit.int .i64 x.f0).wf = true ∧ (Lit.int .i64 x.f1).wf = true
set_option maxRecDepth 100000 in
theorem opens68 : Opens Try.prog 68 k68 W68 := opens_iso (opens_struct Try.underlying68 (by kernel_rfl) (by kernel_rfl) (opensF_cons (opens_int Try.underlying3) (opensF_one (opens_int Try.underlying3)))) (fun x : S68 => (x.f0, x.f1)) (fun p => ⟨p.1, p.2⟩) (fun _ => rfl)
def W25 (x : S25) : Prop := (Lit.int .i64 x.f0).wf = true ∧ (Lit.int .i64 x.f1).wf = true ∧ (Lit.int .i64 x.f2).wf = true ∧ (Lit.int .i64 x.f3).wf = true ∧ (Lit.int .i64 x.f4).wf = true ∧ (Lit.int .i64 x.f5).wf = true ∧ (Lit.int .i64 x.f6).wf = true ∧ x.f7.size ≤ 140737488351232 ∧ x.f8.size ≤ 140737488351232 ∧ (x.f9.length ≤ maxLen ∧ x.f9.length * Try.prog.bytesOf 66 ≤ 140737488351232 ∧ ∀ y ∈ x.f9, W66 y) ∧ (x.f10.length ≤ maxLen ∧ x.f10.length * Try.prog.bytesOf 68 ≤ 140737488351232 ∧ ∀ y ∈ x.f10, W68 y)
set_option maxRecDepth 100000 in
theorem opens25 : Opens Try.prog 25 k25 W25 := opens_iso (opens_struct Try.underlying25 (by kernel_rfl) (by kernel_rfl) (opensF_cons (opens_int Try.underlying3) (opensF_cons (opens_int Try.underlying3) (opensF_cons (opens_int Try.underlying3) (opensF_cons (opens_int Try.underlying3) (opensF_cons (opens_int Try.underlying3) (opensF_cons (opens_int Try.underlying3) (opensF_cons (opens_int Try.underlying3) (opensF_cons (opens_string Try.underlying9) (opensF_cons (opens_string Try.underlying9) (opensF_cons (opens_slice Try.underlying22 (by kernel_rfl) opens66) (opensF_one (opens_slice Try.underlying23 (by kernel_rfl) opens68))))))))))))) (fun x : S25 => (x.f0, x.f1, x.f2, x.f3, x.f4, x.f5, x.f6, x.f7, x.f8, x.f9, x.f10)) (fun p => ⟨p.1, p.2.1, p.2.2.1, p.2.2.2.1, p.2.2.2.2.1, p.2.2.2.2.2.1, p.2.2.2.2.2.2.1, p.2.2.2.2.2.2.2.1, p.2.2.2.2.2.2.2.2.1, p.2.2.2.2.2.2.2.2.2.1, p.2.2.2.2.2.2.2.2.2.2⟩) (fun _ => rfl)
/-- The statement, over plain values. -/
def Pure : Prop := ∀ (x0 : S25) (x1 : ByteArray) (x2 : ByteArray) (x3 : Int), W25 x0 → x1.size ≤ 140737488351232 → x2.size ≤ 140737488351232 → (Lit.int .i64 x3).wf = true → ∃ k : Nat, careenlaw04_RecordBack.f k (x0.f0) (x0.f1) (x0.f2) (x0.f3) (x0.f4) (x0.f5) (x0.f6) (x0.f7) (x0.f8) (x0.f9) (x0.f10) x1 x2 x3 = some true
set_option maxRecDepth 100000 in
theorem lifted (PU : Pure) (os : Os) (started : os.Started) (H : Type) (enc : TypeId × Value → H) :
    ReturnsInHanded {} Try.checked os 4 .any (Rows.recordBackSpec.pre6 enc Try.prog Try.f4 Rows.recordBackRow.domain false) (Rows.recordBackSpec.post enc Try.prog Try.f4 false true false false) := by
  refine returnsInHanded_of_change_sized (C := Try.checked) own started (by kernel_rfl) Try.func4
    (ChangeSpec.witness6 (enc := enc) (C := Try.checked) false ⟨#[], #[.agg #[.int .i64 0, .int .i64 0, .int .i64 0, .int .i64 0, .int .i64 0, .int .i64 0, .int .i64 0, .string ByteArray.empty, .string ByteArray.empty, .slice none 0 0, .slice none 0 0], .string ByteArray.empty, .string ByteArray.empty, .int .i64 0], []⟩ 8 (by kernel_rfl) (by kernel_rfl) (by kernel_rfl) (by kernel_rfl)) ?_
  intro W base args ds gs before hval0 hW hcnd hsz0 _
  have hsz : (DataW.weightsEach Try.prog (Try.f4.params.toList ++ Rows.recordBackSpec.plain.varTypes Try.prog) (ds ++ gs)).all (· ≤ reachBytes) = true := hsz0
  have hval : ∀ (j : Nat) t v, Try.f4.params[j]? = some t → args[j]? = some v → Value.okWide Try.prog W .any base t v := hval0
  have hW' := hW
  obtain ⟨p, q, hA0, hV, rfl, hfz, hnd⟩ := hW
  have hA : DataW.TrodAll enc Try.prog W 0 (fun _ => true) true Try.f4.params.toList args.toList ds p := hA0
  rw [Try.params4] at hA hval hsz
  obtain ⟨v0, vs0, d0, ds0, p0, q0, hargs, rfl, rfl, h0, r0⟩ := trodAll_cons hA
  obtain ⟨v1, vs1, d1, ds1, p1, q1, rfl, rfl, rfl, h1, r1⟩ := trodAll_cons r0
  obtain ⟨v2, vs2, d2, ds2, p2, q2, rfl, rfl, rfl, h2, r2⟩ := trodAll_cons r1
  obtain ⟨v3, vs3, d3, ds3, p3, q3, rfl, rfl, rfl, h3, r3⟩ := trodAll_cons r2
  obtain ⟨rfl, rfl, rfl⟩ := trodAll_nil r3
  obtain rfl : args = #[v0, v1, v2, v3] := by cases args; simp_all
  obtain ⟨rfl, rfl⟩ := trodVars_none hV
  have kk0 := h0
  have lt0 : ∀ x ∈ p0, x.block < W.heap.size := by obtain ⟨m, hm⟩ := kk0; exact DataW.trod_lt m _ _ _ hm
  obtain ⟨x0, hk0, w0⟩ : ∃ x, k25.K W x v0.cells.toList ∧ W25 x := by
    obtain ⟨fuel, hf⟩ := h0
    exact opens25 hf (fun n hn => by simpa using List.all_eq_true.1 hsz n (DataW.weights_mem_each (j := 0) (t := 25) (d := d0) rfl rfl n hn))
  obtain ⟨cs0, rfl, hsz0⟩ := okWide_struct Try.underlying25 (hval 0 25 v0 rfl rfl)
  obtain ⟨A0_9, c0_9, A0_10, c0_10, e0, l0_9, g0_9, l0_10, g0_10⟩ := k25_open hk0
  obtain rfl : cs0 = #[.int .i64 x0.f0, .int .i64 x0.f1, .int .i64 x0.f2, .int .i64 x0.f3, .int .i64 x0.f4, .int .i64 x0.f5, .int .i64 x0.f6, .string x0.f7, .string x0.f8, .slice A0_9 x0.f9.length c0_9, .slice A0_10 x0.f10.length c0_10] := by apply Array.toList_inj.1; simpa [Value.cells] using e0
  have kk1 := h1
  have lt1 : ∀ x ∈ p1, x.block < W.heap.size := by obtain ⟨m, hm⟩ := kk1; exact DataW.trod_lt m _ _ _ hm
  obtain ⟨x1, hk1, w1⟩ : ∃ x, Kd.string.K W x v1.cells.toList ∧ x.size ≤ 140737488351232 := by
    obtain ⟨fuel, hf⟩ := h1
    exact (opens_string Try.underlying9) hf (fun n hn => by simpa using List.all_eq_true.1 hsz n (DataW.weights_mem_each (j := 1) (t := 9) (d := d1) rfl rfl n hn))
  obtain ⟨z1, rfl⟩ := okWide_string Try.underlying9 (hval 1 9 v1 rfl rfl)
  obtain rfl : z1 = x1 := by
    have e : [Value.string z1] = [Value.string x1] := hk1
    simpa using e
  have kk2 := h2
  have lt2 : ∀ x ∈ p2, x.block < W.heap.size := by obtain ⟨m, hm⟩ := kk2; exact DataW.trod_lt m _ _ _ hm
  obtain ⟨x2, hk2, w2⟩ : ∃ x, Kd.string.K W x v2.cells.toList ∧ x.size ≤ 140737488351232 := by
    obtain ⟨fuel, hf⟩ := h2
    exact (opens_string Try.underlying9) hf (fun n hn => by simpa using List.all_eq_true.1 hsz n (DataW.weights_mem_each (j := 2) (t := 9) (d := d2) rfl rfl n hn))
  obtain ⟨z2, rfl⟩ := okWide_string Try.underlying9 (hval 2 9 v2 rfl rfl)
  obtain rfl : z2 = x2 := by
    have e : [Value.string z2] = [Value.string x2] := hk2
    simpa using e
  have kk3 := h3
  have lt3 : ∀ x ∈ p3, x.block < W.heap.size := by obtain ⟨m, hm⟩ := kk3; exact DataW.trod_lt m _ _ _ hm
  obtain ⟨x3, hk3, w3⟩ : ∃ x, (Kd.int .i64).K W x v3.cells.toList ∧ (Lit.int .i64 x).wf = true := by
    obtain ⟨fuel, hf⟩ := h3
    exact (opens_int Try.underlying3) hf (fun n hn => by simpa using List.all_eq_true.1 hsz n (DataW.weights_mem_each (j := 3) (t := 3) (d := d3) rfl rfl n hn))
  obtain ⟨z3, rfl⟩ := okWide_int Try.underlying3 (hval 3 3 v3 rfl rfl)
  obtain rfl : z3 = x3 := by
    have e : [Value.int .i64 z3] = [Value.int .i64 x3] := hk3
    simpa using e
  clear hA0 hval0 hsz0 hsz
  obtain ⟨k, h⟩ := PU x0 z1 z2 z3 w0 w1 w2 w3
  refine (careenlaw04_RecordBack.calls (k := k) (a0_0 := x0.f0) (a0_1 := x0.f1) (a0_2 := x0.f2) (a0_3 := x0.f3) (a0_4 := x0.f4) (a0_5 := x0.f5) (a0_6 := x0.f6) (a0_7 := x0.f7) (a0_8 := x0.f8) (l0_9 := x0.f9) (l0_10 := x0.f10) (a1 := z1) (a2 := z2) (a3 := z3) (r := true) (w := W) (hr0_9 := g0_9) (hc0_9 := l0_9) (hr0_10 := g0_10) (hc0_10 := l0_10) (h := h)).mono fun e W' ⟨he, bel0⟩ => ?_
  have bel : Below W.heap.size W W' := bel0
  subst he
  exact ⟨_, rfl, _, _, _, [], _, [], hW', trodAll_mk1 (shut_bool Try.underlying4 _), (trodAll_cons_mk (Below.trod laidOut (by kernel_rfl) (of_decide_eq_true (by kernel_rfl)) kk0 bel lt0) (trodAll_cons_mk (Below.trod laidOut (by kernel_rfl) (of_decide_eq_true (by kernel_rfl)) kk1 bel lt1) (trodAll_cons_mk (Below.trod laidOut (by kernel_rfl) (of_decide_eq_true (by kernel_rfl)) kk2 bel lt2) (trodAll_cons_mk (Below.trod laidOut (by kernel_rfl) (of_decide_eq_true (by kernel_rfl)) kk3 bel lt3) trodAll_mk0)))), rfl, bel.frame _, fun h => by cases h⟩
/-- The row follows from the plain statement. -/
theorem holds (PU : Pure) : Rows.RecordBackSaid :=
  OpenClaim.holds_of_wide 4 Try.f4 rfl rfl rfl rfl rfl rfl rfl ⟨rfl, rfl, rfl, rfl, rfl⟩ rfl rfl rfl rfl rfl (by kernel_rfl) Try.func4 (by kernel_rfl)
    (of_decide_eq_true (by kernel_rfl)) (by unfold Func.isWrapper; first | (rw [if_pos (by decide +kernel)]; kernel_rfl) | (rw [if_neg (by decide +kernel)]; exact ⟨rfl, rfl⟩))
    (fun os started H enc _ => lifted PU os started H enc)
end Go.Proofs.Ytcfknakmamcinaa.X4b.RowRecordBack
