import Derived.Test.YtcfknakmamcinaaRows
import Derived.WalkKit
import Derived.ProofKit
import Derived.OpenShut
import Derived.ShutString
import Derived.ChangeOld
import Derived.Below
import Derived.SizedLaws
import Derived.Test.YtcfknakmamcinaaQCZ0
import Derived.Test.YtcfknakmamcinaaQCZ1
import Derived.Test.YtcfknakmamcinaaQCZ2
import Derived.Test.YtcfknakmamcinaaQCZ3
import Derived.Test.YtcfknakmamcinaaQCZ4
import Derived.Test.YtcfknakmamcinaaQCZ5
import Derived.Test.YtcfknakmamcinaaQCZ6
import Derived.Test.YtcfknakmamcinaaQCZ7
import Derived.Test.YtcfknakmamcinaaQCZ8
import Derived.Test.YtcfknakmamcinaaQCZ9
import Derived.Test.YtcfknakmamcinaaQCZ10
import Derived.Test.YtcfknakmamcinaaQCZ11
import Derived.Test.YtcfknakmamcinaaQCZ12
import Derived.Test.YtcfknakmamcinaaQCZ13
import Derived.Test.YtcfknakmamcinaaQCZ14
import Derived.Test.YtcfknakmamcinaaQCZ15
import Derived.Test.YtcfknakmamcinaaQCZ16
import Derived.Test.YtcfknakmamcinaaQCZ17
import Derived.Test.YtcfknakmamcinaaQCZ18
import Derived.Test.YtcfknakmamcinaaQCZ19
import Derived.Test.YtcfknakmamcinaaQCZ20
import Derived.Test.YtcfknakmamcinaaQCZ21
import Derived.Test.YtcfknakmamcinaaQCZ22
import Derived.Test.YtcfknakmamcinaaQCZ23
import Derived.Test.YtcfknakmamcinaaQCZ25
namespace Go.Proofs.Ytcfknakmamcinaa.X4r.RowRecordReads
open Go.Proofs.Ytcfknakmamcinaa.X4 Go.ChangeShapes Go.WideShapes Go.ChangeAt Go.RowKit Go.Proofs.Ytcfknakmamcinaa.Opens Go.Proofs.YtcfknakmamcinaaW.PrintWords
open Go.ChangeMaps (open_string shut_string)
set_option linter.unusedVariables false
theorem own : ownKnob Try.prog.godebug = none := by kernel_rfl
theorem laidOut : laidOutB Try.prog = true := by kernel_rfl
/-- The statement, over plain values. -/
def Pure : Prop := ∀ (x0 : ByteArray) (x1 : Int), x0.size ≤ 140737488351232 → (Lit.int .i64 x1).wf = true → ∃ k : Nat, careenlaw04_RecordReads.f k x0 x1 = some true
set_option maxRecDepth 100000 in
theorem lifted (PU : Pure) (os : Os) (started : os.Started) (H : Type) (enc : TypeId × Value → H) :
    ReturnsInHanded {} Try.checked os 9 .any (Rows.recordReadsSpec.pre6 enc Try.prog Try.f9 Rows.recordReadsRow.domain false) (Rows.recordReadsSpec.post enc Try.prog Try.f9 false true false false) := by
  refine returnsInHanded_of_change_sized (C := Try.checked) own started (by kernel_rfl) Try.func9
    (ChangeSpec.witness6 (enc := enc) (C := Try.checked) false ⟨#[], #[.string ByteArray.empty, .int .i64 0], []⟩ 8 (by kernel_rfl) (by kernel_rfl) (by kernel_rfl) (by kernel_rfl)) ?_
  intro W base args ds gs before hval0 hW hcnd hsz0 _
  have hsz : (DataW.weightsEach Try.prog (Try.f9.params.toList ++ Rows.recordReadsSpec.plain.varTypes Try.prog) (ds ++ gs)).all (· ≤ reachBytes) = true := hsz0
  have hval : ∀ (j : Nat) t v, Try.f9.params[j]? = some t → args[j]? = some v → Value.okWide Try.prog W .any base t v := hval0
  have hW' := hW
  obtain ⟨p, q, hA0, hV, rfl, hfz, hnd⟩ := hW
  have hA : DataW.TrodAll enc Try.prog W 0 (fun _ => true) true Try.f9.params.toList args.toList ds p := hA0
  rw [Try.params9] at hA hval hsz
  obtain ⟨v0, vs0, d0, ds0, p0, q0, hargs, rfl, rfl, h0, r0⟩ := trodAll_cons hA
  obtain ⟨v1, vs1, d1, ds1, p1, q1, rfl, rfl, rfl, h1, r1⟩ := trodAll_cons r0
  obtain ⟨rfl, rfl, rfl⟩ := trodAll_nil r1
  obtain rfl : args = #[v0, v1] := by cases args; simp_all
  obtain ⟨rfl, rfl⟩ := trodVars_none hV
  have kk0 := h0
  have lt0 : ∀ x ∈ p0, x.block < W.heap.size := by obtain ⟨m, hm⟩ := kk0; exact DataW.trod_lt m _ _ _ hm
  obtain ⟨x0, hk0, w0⟩ : ∃ x, Kd.string.K W x v0.cells.toList ∧ x.size ≤ 140737488351232 := by
    obtain ⟨fuel, hf⟩ := h0
    exact (opens_string Try.underlying9) hf (fun n hn => by simpa using List.all_eq_true.1 hsz n (DataW.weights_mem_each (j := 0) (t := 9) (d := d0) rfl rfl n hn))
  obtain ⟨z0, rfl⟩ := okWide_string Try.underlying9 (hval 0 9 v0 rfl rfl)
  obtain rfl : z0 = x0 := by
    have e : [Value.string z0] = [Value.string x0] := hk0
    simpa using e
  have kk1 := h1
  have lt1 : ∀ x ∈ p1, x.block < W.heap.size := by obtain ⟨m, hm⟩ := kk1; exact DataW.trod_lt m _ _ _ hm
  obtain ⟨x1, hk1, w1⟩ : ∃ x, (Kd.int .i64).K W x v1.cells.toList ∧ (Lit.int .i64 x).wf = true := by
    obtain ⟨fuel, hf⟩ := h1
    exact (opens_int Try.underlying3) hf (fun n hn => by simpa using List.all_eq_true.1 hsz n (DataW.weights_mem_each (j := 1) (t := 3) (d := d1) rfl rfl n hn))
  obtain ⟨z1, rfl⟩ := okWide_int Try.underlying3 (hval 1 3 v1 rfl rfl)
  obtain rfl : z1 = x1 := by
    have e : [Value.int .i64 z1] = [Value.int .i64 x1] := hk1
    simpa using e
  clear hA0 hval0 hsz0 hsz
  obtain ⟨k, h⟩ := PU z0 z1 w0 w1
  refine (careenlaw04_RecordReads.calls (k := k) (a0 := z0) (a1 := z1) (r := true) (w := W)  (h := h)).mono fun e W' ⟨he, bel0⟩ => ?_
  have bel : Below W.heap.size W W' := bel0
  subst he
  exact ⟨_, rfl, _, _, _, [], _, [], hW', trodAll_mk1 (shut_bool Try.underlying4 _), (trodAll_cons_mk (Below.trod laidOut (by kernel_rfl) (of_decide_eq_true (by kernel_rfl)) kk0 bel lt0) (trodAll_cons_mk (Below.trod laidOut (by kernel_rfl) (of_decide_eq_true (by kernel_rfl)) kk1 bel lt1) trodAll_mk0)), rfl, bel.frame _, fun h => by cases h⟩
/-- The row follows from the plain statement. -/
theorem holds (PU : Pure) : Rows.RecordReadsSaid :=
  OpenClaim.holds_of_wide 9 Try.f9 rfl rfl rfl rfl rfl rfl rfl ⟨rfl, rfl, rfl, rfl, rfl⟩ rfl rfl rfl rfl rfl (by kernel_rfl) Try.func9 (by kernel_rfl)
    (of_decide_eq_true (by kernel_rfl)) (by unfold Func.isWrapper; first | (rw [if_pos (by decide +kernel)]; kernel_rfl) | (rw [if_neg (by decide +kernel)]; exact ⟨rfl, rfl⟩))
    (fun os started H enc _ => lifted PU os started H enc)
end Go.Proofs.Ytcfknakmamcinaa.X4r.RowRecordReads
