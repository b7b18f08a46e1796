import Derived.Test.YtcelfhoomhmioaaRows
import Derived.WalkKit
import Derived.ProofKit
import Derived.OpenShut
import Derived.ShutString
import Derived.ChangeOld
import Derived.Below
import Derived.SizedLaws
import Derived.Test.YtcelfhoomhmioaaPAZ0
import Derived.Test.YtcelfhoomhmioaaPAZ1
import Derived.Test.YtcelfhoomhmioaaPAZ2
import Derived.Test.YtcelfhoomhmioaaPAZ3
import Derived.Test.YtcelfhoomhmioaaPAZ4
import Derived.Test.YtcelfhoomhmioaaPAZ5
import Derived.Test.YtcelfhoomhmioaaPAZ6
import Derived.Test.YtcelfhoomhmioaaPAZ7
import Derived.Test.YtcelfhoomhmioaaPAZ8
import Derived.Test.YtcelfhoomhmioaaPAZ9
import Derived.Test.YtcelfhoomhmioaaPAZ10
import Derived.Test.YtcelfhoomhmioaaPAZ11
import Derived.Test.YtcelfhoomhmioaaPAZ12
import Derived.Test.YtcelfhoomhmioaaPAZ13
namespace Go.Proofs.Ytcelfhoomhmioaa.X4.RowPoolNil
open Go.ChangeShapes Go.WideShapes Go.ChangeAt Go.RowKit Go.Proofs.Ytcelfhoomhmioaa.Opens Go.Proofs.YtcelfhoomhmioaaW.PrintWords
open Go.ChangeMaps (open_string shut_string)
set_option linter.unusedVariables false
theorem own : ownKnob Try.prog.godebug = none := by kernel_rfl
theorem laidOut : laidOutB Try.prog = true := by kernel_rfl
def W35 (x : S35) : Prop := (Lit.int .i64 x.f0).wf = true ∧ x.f1.size ≤ 140737488351232
set_option maxRecDepth 100000 in
theorem opens35 : Opens Try.prog 35 k35 W35 := opens_iso (opens_struct Try.underlying35 (by kernel_rfl) (by kernel_rfl) (opensF_cons (opens_int Try.underlying3) (opensF_one (opens_string Try.underlying9)))) (fun x : S35 => (x.f0, x.f1)) (fun p => ⟨p.1, p.2⟩) (fun _ => rfl)
/-- The statement, over plain values. -/
def Pure : Prop := ∀ (x0 : Int) (x1 : S35), (Lit.int .i64 x0).wf = true → W35 x1 → ∃ k : Nat, careenlaw08_PoolNil.f x0 (x1.f0) (x1.f1) = some true
set_option maxRecDepth 100000 in
theorem lifted (PU : Pure) (os : Os) (started : os.Started) (H : Type) (enc : TypeId × Value → H) :
    ReturnsInHanded {} Try.checked os 5 .any (Rows.poolNilSpec.pre6 enc Try.prog Try.f5 Rows.poolNilRow.domain false) (Rows.poolNilSpec.post enc Try.prog Try.f5 false true false false) := by
  refine returnsInHanded_of_change_sized (C := Try.checked) own started (by kernel_rfl) Try.func5
    (ChangeSpec.witness6 (enc := enc) (C := Try.checked) false ⟨#[], #[.int .i64 0, .agg #[.int .i64 0, .string ByteArray.empty]], []⟩ 8 (by kernel_rfl) (by kernel_rfl) (by kernel_rfl) (by kernel_rfl)) ?_
  intro W base args ds gs before hval0 hW hcnd hsz0 _
  have hsz : (DataW.weightsEach Try.prog (Try.f5.params.toList ++ Rows.poolNilSpec.plain.varTypes Try.prog) (ds ++ gs)).all (· ≤ reachBytes) = true := hsz0
  have hval : ∀ (j : Nat) t v, Try.f5.params[j]? = some t → args[j]? = some v → Value.okWide Try.prog W .any base t v := hval0
  have hW' := hW
  obtain ⟨p, q, hA0, hV, rfl, hfz, hnd⟩ := hW
  have hA : DataW.TrodAll enc Try.prog W 0 (fun _ => true) true Try.f5.params.toList args.toList ds p := hA0
  rw [Try.params5] at hA hval hsz
  obtain ⟨v0, vs0, d0, ds0, p0, q0, hargs, rfl, rfl, h0, r0⟩ := trodAll_cons hA
  obtain ⟨v1, vs1, d1, ds1, p1, q1, rfl, rfl, rfl, h1, r1⟩ := trodAll_cons r0
  obtain ⟨rfl, rfl, rfl⟩ := trodAll_nil r1
  obtain rfl : args = #[v0, v1] := by cases args; simp_all
  obtain ⟨rfl, rfl⟩ := trodVars_none hV
  have kk0 := h0
  have lt0 : ∀ x ∈ p0, x.block < W.heap.size := by obtain ⟨m, hm⟩ := kk0; exact DataW.trod_lt m _ _ _ hm
  obtain ⟨x0, hk0, w0⟩ : ∃ x, (Kd.int .i64).K W x v0.cells.toList ∧ (Lit.int .i64 x).wf = true := by
    obtain ⟨fuel, hf⟩ := h0
    exact (opens_int Try.underlying3) hf (fun n hn => by simpa using List.all_eq_true.1 hsz n (DataW.weights_mem_each (j := 0) (t := 3) (d := d0) rfl rfl n hn))
  obtain ⟨z0, rfl⟩ := okWide_int Try.underlying3 (hval 0 3 v0 rfl rfl)
  obtain rfl : z0 = x0 := by
    have e : [Value.int .i64 z0] = [Value.int .i64 x0] := hk0
    simpa using e
  have kk1 := h1
  have lt1 : ∀ x ∈ p1, x.block < W.heap.size := by obtain ⟨m, hm⟩ := kk1; exact DataW.trod_lt m _ _ _ hm
  obtain ⟨x1, hk1, w1⟩ : ∃ x, k35.K W x v1.cells.toList ∧ W35 x := by
    obtain ⟨fuel, hf⟩ := h1
    exact opens35 hf (fun n hn => by simpa using List.all_eq_true.1 hsz n (DataW.weights_mem_each (j := 1) (t := 35) (d := d1) rfl rfl n hn))
  obtain ⟨cs1, rfl, hsz1⟩ := okWide_struct Try.underlying35 (hval 1 35 v1 rfl rfl)
  have e1 := k35_open hk1
  obtain rfl : cs1 = #[.int .i64 x1.f0, .string x1.f1] := by apply Array.toList_inj.1; simpa [Value.cells] using e1
  clear hA0 hval0 hsz0 hsz
  obtain ⟨k, h⟩ := PU z0 x1 w0 w1
  refine (careenlaw08_PoolNil.calls (a0 := z0) (a1_0 := x1.f0) (a1_1 := x1.f1) (r := true) (w := W)  (h := h)).mono fun e W' ⟨he, bel0⟩ => ?_
  have bel : Below W.heap.size W W' := bel0
  subst he
  exact ⟨_, rfl, _, _, _, [], _, [], hW', trodAll_mk1 (shut_bool Try.underlying4 _), (trodAll_cons_mk (Below.trod laidOut (by kernel_rfl) (of_decide_eq_true (by kernel_rfl)) kk0 bel lt0) (trodAll_cons_mk (Below.trod laidOut (by kernel_rfl) (of_decide_eq_true (by kernel_rfl)) kk1 bel lt1) trodAll_mk0)), rfl, bel.frame _, fun h => by cases h⟩
/-- The row follows from the plain statement. -/
theorem holds (PU : Pure) : Rows.PoolNilSaid :=
  OpenClaim.holds_of_wide 5 Try.f5 rfl rfl rfl rfl rfl rfl rfl ⟨rfl, rfl, rfl, rfl, rfl⟩ rfl rfl rfl rfl rfl (by kernel_rfl) Try.func5 (by kernel_rfl)
    (of_decide_eq_true (by kernel_rfl)) (by unfold Func.isWrapper; first | (rw [if_pos (by decide +kernel)]; kernel_rfl) | (rw [if_neg (by decide +kernel)]; exact ⟨rfl, rfl⟩))
    (fun os started H enc _ => lifted PU os started H enc)
end Go.Proofs.Ytcelfhoomhmioaa.X4.RowPoolNil
namespace Go.Proofs.Ytcelfhoomhmioaa.X4.RowPoolDrops
open Go.ChangeShapes Go.WideShapes Go.ChangeAt Go.RowKit Go.Proofs.Ytcelfhoomhmioaa.Opens Go.Proofs.YtcelfhoomhmioaaW.PrintWords
open Go.ChangeMaps (open_string shut_string)
set_option linter.unusedVariables false
theorem own : ownKnob Try.prog.godebug = none := by kernel_rfl
theorem laidOut : laidOutB Try.prog = true := by kernel_rfl
def W35 (x : S35) : Prop := (Lit.int .i64 x.f0).wf = true ∧ x.f1.size ≤ 140737488351232
set_option maxRecDepth 100000 in
theorem opens35 : Opens Try.prog 35 k35 W35 := opens_iso (opens_struct Try.underlying35 (by kernel_rfl) (by kernel_rfl) (opensF_cons (opens_int Try.underlying3) (opensF_one (opens_string Try.underlying9)))) (fun x : S35 => (x.f0, x.f1)) (fun p => ⟨p.1, p.2⟩) (fun _ => rfl)
/-- The statement, over plain values. -/
def Pure : Prop := ∀ (x0 : S35) (x1 : S35), W35 x0 → W35 x1 → ∃ k : Nat, careenlaw08_PoolDrops.f (x0.f0) (x0.f1) (x1.f0) (x1.f1) = some true
set_option maxRecDepth 100000 in
theorem lifted (PU : Pure) (os : Os) (started : os.Started) (H : Type) (enc : TypeId × Value → H) :
    ReturnsInHanded {} Try.checked os 4 .any (Rows.poolDropsSpec.pre6 enc Try.prog Try.f4 Rows.poolDropsRow.domain false) (Rows.poolDropsSpec.post enc Try.prog Try.f4 false true false false) := by
  refine returnsInHanded_of_change_sized (C := Try.checked) own started (by kernel_rfl) Try.func4
    (ChangeSpec.witness6 (enc := enc) (C := Try.checked) false ⟨#[], #[.agg #[.int .i64 0, .string ByteArray.empty], .agg #[.int .i64 0, .string ByteArray.empty]], []⟩ 8 (by kernel_rfl) (by kernel_rfl) (by kernel_rfl) (by kernel_rfl)) ?_
  intro W base args ds gs before hval0 hW hcnd hsz0 _
  have hsz : (DataW.weightsEach Try.prog (Try.f4.params.toList ++ Rows.poolDropsSpec.plain.varTypes Try.prog) (ds ++ gs)).all (· ≤ reachBytes) = true := hsz0
  have hval : ∀ (j : Nat) t v, Try.f4.params[j]? = some t → args[j]? = some v → Value.okWide Try.prog W .any base t v := hval0
  have hW' := hW
  obtain ⟨p, q, hA0, hV, rfl, hfz, hnd⟩ := hW
  have hA : DataW.TrodAll enc Try.prog W 0 (fun _ => true) true Try.f4.params.toList args.toList ds p := hA0
  rw [Try.params4] at hA hval hsz
  obtain ⟨v0, vs0, d0, ds0, p0, q0, hargs, rfl, rfl, h0, r0⟩ := trodAll_cons hA
  obtain ⟨v1, vs1, d1, ds1, p1, q1, rfl, rfl, rfl, h1, r1⟩ := trodAll_cons r0
  obtain ⟨rfl, rfl, rfl⟩ := trodAll_nil r1
  obtain rfl : args = #[v0, v1] := by cases args; simp_all
  obtain ⟨rfl, rfl⟩ := trodVars_none hV
  have kk0 := h0
  have lt0 : ∀ x ∈ p0, x.block < W.heap.size := by obtain ⟨m, hm⟩ := kk0; exact DataW.trod_lt m _ _ _ hm
  obtain ⟨x0, hk0, w0⟩ : ∃ x, k35.K W x v0.cells.toList ∧ W35 x := by
    obtain ⟨fuel, hf⟩ := h0
    exact opens35 hf (fun n hn => by simpa using List.all_eq_true.1 hsz n (DataW.weights_mem_each (j := 0) (t := 35) (d := d0) rfl rfl n hn))
  obtain ⟨cs0, rfl, hsz0⟩ := okWide_struct Try.underlying35 (hval 0 35 v0 rfl rfl)
  have e0 := k35_open hk0
  obtain rfl : cs0 = #[.int .i64 x0.f0, .string x0.f1] := by apply Array.toList_inj.1; simpa [Value.cells] using e0
  have kk1 := h1
  have lt1 : ∀ x ∈ p1, x.block < W.heap.size := by obtain ⟨m, hm⟩ := kk1; exact DataW.trod_lt m _ _ _ hm
  obtain ⟨x1, hk1, w1⟩ : ∃ x, k35.K W x v1.cells.toList ∧ W35 x := by
    obtain ⟨fuel, hf⟩ := h1
    exact opens35 hf (fun n hn => by simpa using List.all_eq_true.1 hsz n (DataW.weights_mem_each (j := 1) (t := 35) (d := d1) rfl rfl n hn))
  obtain ⟨cs1, rfl, hsz1⟩ := okWide_struct Try.underlying35 (hval 1 35 v1 rfl rfl)
  have e1 := k35_open hk1
  obtain rfl : cs1 = #[.int .i64 x1.f0, .string x1.f1] := by apply Array.toList_inj.1; simpa [Value.cells] using e1
  clear hA0 hval0 hsz0 hsz
  obtain ⟨k, h⟩ := PU x0 x1 w0 w1
  refine (careenlaw08_PoolDrops.calls (a0_0 := x0.f0) (a0_1 := x0.f1) (a1_0 := x1.f0) (a1_1 := x1.f1) (r := true) (w := W)  (h := h)).mono fun e W' ⟨he, bel0⟩ => ?_
  have bel : Below W.heap.size W W' := bel0
  subst he
  exact ⟨_, rfl, _, _, _, [], _, [], hW', trodAll_mk1 (shut_bool Try.underlying4 _), (trodAll_cons_mk (Below.trod laidOut (by kernel_rfl) (of_decide_eq_true (by kernel_rfl)) kk0 bel lt0) (trodAll_cons_mk (Below.trod laidOut (by kernel_rfl) (of_decide_eq_true (by kernel_rfl)) kk1 bel lt1) trodAll_mk0)), rfl, bel.frame _, fun h => by cases h⟩
/-- The row follows from the plain statement. -/
theorem holds (PU : Pure) : Rows.PoolDropsSaid :=
  OpenClaim.holds_of_wide 4 Try.f4 rfl rfl rfl rfl rfl rfl rfl ⟨rfl, rfl, rfl, rfl, rfl⟩ rfl rfl rfl rfl rfl (by kernel_rfl) Try.func4 (by kernel_rfl)
    (of_decide_eq_true (by kernel_rfl)) (by unfold Func.isWrapper; first | (rw [if_pos (by decide +kernel)]; kernel_rfl) | (rw [if_neg (by decide +kernel)]; exact ⟨rfl, rfl⟩))
    (fun os started H enc _ => lifted PU os started H enc)
end Go.Proofs.Ytcelfhoomhmioaa.X4.RowPoolDrops
