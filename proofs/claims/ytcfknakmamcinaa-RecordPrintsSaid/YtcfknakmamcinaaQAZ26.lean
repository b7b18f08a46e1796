import Derived.Test.YtcfknakmamcinaaRows
import Derived.WalkKit
import Derived.ProofKit
import Derived.OpenShut
import Derived.ShutString
import Derived.ChangeOld
import Derived.Below
import Derived.SizedLaws
import Derived.Test.YtcfknakmamcinaaQAZ0
import Derived.Test.YtcfknakmamcinaaQAZ1
import Derived.Test.YtcfknakmamcinaaQAZ2
import Derived.Test.YtcfknakmamcinaaQAZ3
import Derived.Test.YtcfknakmamcinaaQAZ4
import Derived.Test.YtcfknakmamcinaaQAZ5
import Derived.Test.YtcfknakmamcinaaQAZ6
import Derived.Test.YtcfknakmamcinaaQAZ7
import Derived.Test.YtcfknakmamcinaaQAZ8
import Derived.Test.YtcfknakmamcinaaQAZ9
import Derived.Test.YtcfknakmamcinaaQAZ10
import Derived.Test.YtcfknakmamcinaaQAZ11
import Derived.Test.YtcfknakmamcinaaQAZ12
import Derived.Test.YtcfknakmamcinaaQAZ13
import Derived.Test.YtcfknakmamcinaaQAZ14
import Derived.Test.YtcfknakmamcinaaQAZ15
import Derived.Test.YtcfknakmamcinaaQAZ16
import Derived.Test.YtcfknakmamcinaaQAZ17
import Derived.Test.YtcfknakmamcinaaQAZ18
import Derived.Test.YtcfknakmamcinaaQAZ19
import Derived.Test.YtcfknakmamcinaaQAZ20
import Derived.Test.YtcfknakmamcinaaQAZ21
import Derived.Test.YtcfknakmamcinaaQAZ22
import Derived.Test.YtcfknakmamcinaaQAZ23
import Derived.Test.YtcfknakmamcinaaQAZ24
import Derived.Test.YtcfknakmamcinaaQAZ25
namespace Go.Proofs.Ytcfknakmamcinaa.Pt
open Go Go.RowKit Go.Proofs.YtcfknakmamcinaaW.PrintWords Go.Proofs.Ytcfknakmamcinaa.X4 Go.Proofs.Ytcfknakmamcinaa.X4b Go.Proofs.Ytcfknakmamcinaa.Rp Go.Proofs.Ytcfknakmamcinaa.Wr
set_option linter.unusedVariables false
set_option linter.unusedSimpArgs false
abbrev few (r : S25) : Prop := r.f7.size ≤ 300 ∧ r.f8.size ≤ 300 ∧ r.f9.length ≤ 50 ∧ r.f10.length ≤ 50
theorem few_f (r : S25) : careenref04_Few.f r.f0 r.f1 r.f2 r.f3 r.f4 r.f5 r.f6 r.f7 r.f8 r.f9 r.f10 = some (decide (few r)) := by
  unfold careenref04_Few.f
  by_cases h1 : r.f7.size ≤ 300
  · rw [if_pos (by omega)]
    by_cases h2 : r.f8.size ≤ 300
    · rw [if_pos (by omega)]
      by_cases h3 : r.f9.length ≤ 50
      · rw [if_pos (by omega)]
        congr 1
        rw [decide_eq_decide]
        omega
      · rw [if_neg (by omega)]; congr 1; symm; rw [decide_eq_false_iff_not]; omega
    · rw [if_neg (by omega)]; congr 1; symm; rw [decide_eq_false_iff_not]; omega
  · rw [if_neg (by omega)]; congr 1; symm; rw [decide_eq_false_iff_not]; omega
theorem print_f {r : S25} (h : r.f8.size ≤ 1000000) : record_Print.f r.f0 r.f1 r.f2 r.f3 r.f4 r.f5 r.f6 r.f7 r.f8 r.f9 r.f10 = some (printF r) := by
  unfold record_Print.f
  rw [if_pos h]
theorem may_f {r : S25} (h : r.f9.length ≤ 1000000) (h2 : r.f10.length ≤ 1000000) : careenref04_May.f r.f0 r.f1 r.f2 r.f3 r.f4 r.f5 r.f6 r.f7 r.f8 r.f9 r.f10 = some (mayB r) := by
  unfold careenref04_May.f
  rw [if_pos ⟨h, h2⟩]
theorem toList_nil : (⟨#[]⟩ : ByteArray).toList = [] := by rw [toList_bl]
theorem awake_eq : careenlaw04_awake.f = some true := by
  unfold careenlaw04_awake.f
  simp only [record_Print.f, record_Read.f]
  rw [if_pos (by decide +kernel), if_pos (by decide +kernel), if_pos (by decide +kernel)]
  simp only [Option.bind_some, toList_bl]
  decide +kernel
end Go.Proofs.Ytcfknakmamcinaa.Pt
namespace Go.Proofs.Ytcfknakmamcinaa.X4b.RowRecordPrints
open Go.Proofs.Ytcfknakmamcinaa.X4 Go.ChangeShapes Go.WideShapes Go.ChangeAt Go.RowKit Go.Proofs.Ytcfknakmamcinaa.Opens Go.Proofs.YtcfknakmamcinaaW.PrintWords
open Go.ChangeMaps (open_string shut_string)
set_option linter.unusedVariables false
theorem own : ownKnob Try.prog.godebug = none := by kernel_rfl
theorem laidOut : laidOutB Try.prog = true := by kernel_rfl
def W66 (x : S66) : Prop := (Lit.int .i64 x.f0).wf = true ∧ (Lit.int .i64 x.f1).wf = true ∧ (Lit.int .i64 x.f2).wf = true
set_option maxRecDepth 100000 in
theorem opens66 : Opens Try.prog 66 k66 W66 := opens_iso (opens_struct Try.underlying66 (by kernel_rfl) (by kernel_rfl) (opensF_cons (opens_int Try.underlying3) (opensF_cons (opens_int Try.underlying3) (opensF_one (opens_int Try.underlying3))))) (fun x : S66 => (x.f0, x.f1, x.f2)) (fun p => ⟨p.1, p.2.1, p.2.2⟩) (fun _ => rfl)
def W68 (x : S68) : Prop := (Lit.int .i64 x.f0).wf = true ∧ (Lit.int .i64 x.f1).wf = true
set_option maxRecDepth 100000 in
theorem opens68 : Opens Try.prog 68 k68 W68 := opens_iso (opens_struct Try.underlying68 (by kernel_rfl) (by kernel_rfl) (opensF_cons (opens_int Try.underlying3) (opensF_one (opens_int Try.underlying3)))) (fun x : S68 => (x.f0, x.f1)) (fun p => ⟨p.1, p.2⟩) (fun _ => rfl)
def W25 (x : S25) : Prop := (Lit.int .i64 x.f0).wf = true ∧ (Lit.int .i64 x.f1).wf = true ∧ (Lit.int .i64 x.f2).wf = true ∧ (Lit.int .i64 x.f3).wf = true ∧ (Lit.int .i64 x.f4).wf = true ∧ (Lit.int .i64 x.f5).wf = true ∧ (Lit.int .i64 x.f6).wf = true ∧ x.f7.size ≤ 140737488351232 ∧ x.f8.size ≤ 140737488351232 ∧ (x.f9.length ≤ maxLen ∧ x.f9.length * Try.prog.bytesOf 66 ≤ 140737488351232 ∧ ∀ y ∈ x.f9, W66 y) ∧ (x.f10.length ≤ maxLen ∧ x.f10.length * Try.prog.bytesOf 68 ≤ 140737488351232 ∧ ∀ y ∈ x.f10, W68 y)
set_option maxRecDepth 100000 in
theorem opens25 : Opens Try.prog 25 k25 W25 := opens_iso (opens_struct Try.underlying25 (by kernel_rfl) (by kernel_rfl) (opensF_cons (opens_int Try.underlying3) (opensF_cons (opens_int Try.underlying3) (opensF_cons (opens_int Try.underlying3) (opensF_cons (opens_int Try.underlying3) (opensF_cons (opens_int Try.underlying3) (opensF_cons (opens_int Try.underlying3) (opensF_cons (opens_int Try.underlying3) (opensF_cons (opens_string Try.underlying9) (opensF_cons (opens_string Try.underlying9) (opensF_cons (opens_slice Try.underlying22 (by kernel_rfl) opens66) (opensF_one (opens_slice Try.underlying23 (by kernel_rfl) opens68))))))))))))) (fun x : S25 => (x.f0, x.f1, x.f2, x.f3, x.f4, x.f5, x.f6, x.f7, x.f8, x.f9, x.f10)) (fun p => ⟨p.1, p.2.1, p.2.2.1, p.2.2.2.1, p.2.2.2.2.1, p.2.2.2.2.2.1, p.2.2.2.2.2.2.1, p.2.2.2.2.2.2.2.1, p.2.2.2.2.2.2.2.2.1, p.2.2.2.2.2.2.2.2.2.1, p.2.2.2.2.2.2.2.2.2.2⟩) (fun _ => rfl)
/-- The statement, over plain values. -/
def Pure : Prop := ∀ (x0 : S25), W25 x0 → ∃ k : Nat, careenlaw04_RecordPrints.f k (x0.f0) (x0.f1) (x0.f2) (x0.f3) (x0.f4) (x0.f5) (x0.f6) (x0.f7) (x0.f8) (x0.f9) (x0.f10) = some true
set_option maxRecDepth 100000 in
theorem lifted (PU : Pure) (os : Os) (started : os.Started) (H : Type) (enc : TypeId × Value → H) :
    ReturnsInHanded {} Try.checked os 3 .any (Rows.recordPrintsSpec.pre6 enc Try.prog Try.f3 Rows.recordPrintsRow.domain false) (Rows.recordPrintsSpec.post enc Try.prog Try.f3 false true false false) := by
  refine returnsInHanded_of_change_sized (C := Try.checked) own started (by kernel_rfl) Try.func3
    (ChangeSpec.witness6 (enc := enc) (C := Try.checked) false ⟨#[], #[.agg #[.int .i64 0, .int .i64 0, .int .i64 0, .int .i64 0, .int .i64 0, .int .i64 0, .int .i64 0, .string ByteArray.empty, .string ByteArray.empty, .slice none 0 0, .slice none 0 0]], []⟩ 8 (by kernel_rfl) (by kernel_rfl) (by kernel_rfl) (by kernel_rfl)) ?_
  intro W base args ds gs before hval0 hW hcnd hsz0 _
  have hsz : (DataW.weightsEach Try.prog (Try.f3.params.toList ++ Rows.recordPrintsSpec.plain.varTypes Try.prog) (ds ++ gs)).all (· ≤ reachBytes) = true := hsz0
  have hval : ∀ (j : Nat) t v, Try.f3.params[j]? = some t → args[j]? = some v → Value.okWide Try.prog W .any base t v := hval0
  have hW' := hW
  obtain ⟨p, q, hA0, hV, rfl, hfz, hnd⟩ := hW
  have hA : DataW.TrodAll enc Try.prog W 0 (fun _ => true) true Try.f3.params.toList args.toList ds p := hA0
  rw [Try.params3] at hA hval hsz
  obtain ⟨v0, vs0, d0, ds0, p0, q0, hargs, rfl, rfl, h0, r0⟩ := trodAll_cons hA
  obtain ⟨rfl, rfl, rfl⟩ := trodAll_nil r0
  obtain rfl : args = #[v0] := by cases args; simp_all
  obtain ⟨rfl, rfl⟩ := trodVars_none hV
  have kk0 := h0
  have lt0 : ∀ x ∈ p0, x.block < W.heap.size := by obtain ⟨m, hm⟩ := kk0; exact DataW.trod_lt m _ _ _ hm
  obtain ⟨x0, hk0, w0⟩ : ∃ x, k25.K W x v0.cells.toList ∧ W25 x := by
    obtain ⟨fuel, hf⟩ := h0
    exact opens25 hf (fun n hn => by simpa using List.all_eq_true.1 hsz n (DataW.weights_mem_each (j := 0) (t := 25) (d := d0) rfl rfl n hn))
  obtain ⟨cs0, rfl, hsz0⟩ := okWide_struct Try.underlying25 (hval 0 25 v0 rfl rfl)
  obtain ⟨A0_9, c0_9, A0_10, c0_10, e0, l0_9, g0_9, l0_10, g0_10⟩ := k25_open hk0
  obtain rfl : cs0 = #[.int .i64 x0.f0, .int .i64 x0.f1, .int .i64 x0.f2, .int .i64 x0.f3, .int .i64 x0.f4, .int .i64 x0.f5, .int .i64 x0.f6, .string x0.f7, .string x0.f8, .slice A0_9 x0.f9.length c0_9, .slice A0_10 x0.f10.length c0_10] := by apply Array.toList_inj.1; simpa [Value.cells] using e0
  clear hA0 hval0 hsz0 hsz
  obtain ⟨k, h⟩ := PU x0 w0
  refine (careenlaw04_RecordPrints.calls (k := k) (a0_0 := x0.f0) (a0_1 := x0.f1) (a0_2 := x0.f2) (a0_3 := x0.f3) (a0_4 := x0.f4) (a0_5 := x0.f5) (a0_6 := x0.f6) (a0_7 := x0.f7) (a0_8 := x0.f8) (l0_9 := x0.f9) (l0_10 := x0.f10) (r := true) (w := W) (hr0_9 := g0_9) (hc0_9 := l0_9) (hr0_10 := g0_10) (hc0_10 := l0_10) (h := h)).mono fun e W' ⟨he, bel0⟩ => ?_
  have bel : Below W.heap.size W W' := bel0
  subst he
  exact ⟨_, rfl, _, _, _, [], _, [], hW', trodAll_mk1 (shut_bool Try.underlying4 _), (trodAll_cons_mk (Below.trod laidOut (by kernel_rfl) (of_decide_eq_true (by kernel_rfl)) kk0 bel lt0) trodAll_mk0), rfl, bel.frame _, fun h => by cases h⟩
/-- The row follows from the plain statement. -/
theorem holds (PU : Pure) : Rows.RecordPrintsSaid :=
  OpenClaim.holds_of_wide 3 Try.f3 rfl rfl rfl rfl rfl rfl rfl ⟨rfl, rfl, rfl, rfl, rfl⟩ rfl rfl rfl rfl rfl (by kernel_rfl) Try.func3 (by kernel_rfl)
    (of_decide_eq_true (by kernel_rfl)) (by unfold Func.isWrapper; first | (rw [if_pos (by decide +kernel)]; kernel_rfl) | (rw [if_neg (by decide +kernel)]; exact ⟨rfl, rfl⟩))
    (fun os started H enc _ => lifted PU os started H enc)
end Go.Proofs.Ytcfknakmamcinaa.X4b.RowRecordPrints
