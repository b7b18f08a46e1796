import Derived.Test.YtneilimiijcghaaRows
import Derived.WalkKit
import Derived.ProofKit
import Derived.OpenShut
import Derived.ShutString
import Derived.ChangeOld
import Derived.Below
import Derived.SizedLaws
import Derived.Test.YtneilimiijcghaaQLZ0
import Derived.Test.YtneilimiijcghaaQLZ1
import Derived.Test.YtneilimiijcghaaQLZ2
import Derived.Test.YtneilimiijcghaaQLZ3
import Derived.Test.YtneilimiijcghaaQLZ4
import Derived.Test.YtneilimiijcghaaQLZ5
import Derived.Test.YtneilimiijcghaaQLZ6
import Derived.Test.YtneilimiijcghaaQLZ7
import Derived.Test.YtneilimiijcghaaQLZ8
import Derived.Test.YtneilimiijcghaaQLZ9
import Derived.Test.YtneilimiijcghaaQLZ10
import Derived.Test.YtneilimiijcghaaQLZ11
namespace Go.Proofs.Ytneilimiijcghaa.X12.RowStoreLast
open Go.ChangeShapes Go.WideShapes Go.ChangeAt Go.RowKit Go.Proofs.Ytneilimiijcghaa.Opens Go.Proofs.YtneilimiijcghaaW.PrintWords
open Go.ChangeMaps (open_string shut_string)
set_option linter.unusedVariables false
theorem own : ownKnob Try.prog.godebug = none := by kernel_rfl
theorem laidOut : laidOutB Try.prog = true := by kernel_rfl
def W34 (x : S34) : Prop := (Lit.int .i64 x.f0).wf = true ∧ x.f1.size ≤ 140737488351232
set_option maxRecDepth 100000 in
theorem opens34 : Opens Try.prog 34 k34 W34 := opens_iso (opens_struct Try.underlying34 (by kernel_rfl) (by kernel_rfl) (opensF_cons (opens_int Try.underlying3) (opensF_one (opens_string Try.underlying9)))) (fun x : S34 => (x.f0, x.f1)) (fun p => ⟨p.1, p.2⟩) (fun _ => rfl)
def W39 (x : S39) : Prop := (Lit.int .i64 x.f0).wf = true ∧ (Lit.int .i64 x.f1).wf = true ∧ (Lit.int .i64 x.f2).wf = true ∧ W34 x.f3 ∧ (x.f4.length ≤ maxLen ∧ x.f4.length * Try.prog.bytesOf 5 ≤ 140737488351232 ∧ ∀ y ∈ x.f4, (Lit.int .u8 y).wf = true)
set_option maxRecDepth 100000 in
theorem opens39 : Opens Try.prog 39 k39 W39 := opens_iso (opens_struct Try.underlying39 (by kernel_rfl) (by kernel_rfl) (opensF_cons (opens_int Try.underlying3) (opensF_cons (opens_int Try.underlying3) (opensF_cons (opens_int Try.underlying3) (opensF_cons opens34 (opensF_one (opens_slice Try.underlying37 (by kernel_rfl) (opens_int Try.underlying5)))))))) (fun x : S39 => (x.f0, x.f1, x.f2, x.f3, x.f4)) (fun p => ⟨p.1, p.2.1, p.2.2.1, p.2.2.2.1, p.2.2.2.2⟩) (fun _ => rfl)
/-- The statement, over plain values. -/
def Pure : Prop := ∀ (x0 : List S39) (x1 : Int) (x2 : Int) (x3 : S34), (x0.length ≤ maxLen ∧ x0.length * Try.prog.bytesOf 39 ≤ 140737488351232 ∧ ∀ y ∈ x0, W39 y) → (Lit.int .i64 x1).wf = true → (Lit.int .i64 x2).wf = true → W34 x3 → ∃ k : Nat, careenlaw07_StoreLast.f x0 x1 x2 (x3.f0) (x3.f1) = some true
set_option maxRecDepth 100000 in
theorem lifted (PU : Pure) (os : Os) (started : os.Started) (H : Type) (enc : TypeId × Value → H) :
    ReturnsInHanded {} Try.checked os 4 .any (Rows.storeLastSpec.pre6 enc Try.prog Try.f4 Rows.storeLastRow.domain false) (Rows.storeLastSpec.post enc Try.prog Try.f4 false true false false) := by
  refine returnsInHanded_of_change_sized (C := Try.checked) own started (by kernel_rfl) Try.func4
    (ChangeSpec.witness6 (enc := enc) (C := Try.checked) false ⟨#[], #[.slice none 0 0, .int .i64 0, .int .i64 0, .agg #[.int .i64 0, .string ByteArray.empty]], []⟩ 8 (by kernel_rfl) (by kernel_rfl) (by kernel_rfl) (by kernel_rfl)) ?_
  intro W base args ds gs before hval0 hW hcnd hsz0 _
  have hsz : (DataW.weightsEach Try.prog (Try.f4.params.toList ++ Rows.storeLastSpec.plain.varTypes Try.prog) (ds ++ gs)).all (· ≤ reachBytes) = true := hsz0
  have hval : ∀ (j : Nat) t v, Try.f4.params[j]? = some t → args[j]? = some v → Value.okWide Try.prog W .any base t v := hval0
  have hW' := hW
  obtain ⟨p, q, hA0, hV, rfl, hfz, hnd⟩ := hW
  have hA : DataW.TrodAll enc Try.prog W 0 (fun _ => true) true Try.f4.params.toList args.toList ds p := hA0
  rw [Try.params4] at hA hval hsz
  obtain ⟨v0, vs0, d0, ds0, p0, q0, hargs, rfl, rfl, h0, r0⟩ := trodAll_cons hA
  obtain ⟨v1, vs1, d1, ds1, p1, q1, rfl, rfl, rfl, h1, r1⟩ := trodAll_cons r0
  obtain ⟨v2, vs2, d2, ds2, p2, q2, rfl, rfl, rfl, h2, r2⟩ := trodAll_cons r1
  obtain ⟨v3, vs3, d3, ds3, p3, q3, rfl, rfl, rfl, h3, r3⟩ := trodAll_cons r2
  obtain ⟨rfl, rfl, rfl⟩ := trodAll_nil r3
  obtain rfl : args = #[v0, v1, v2, v3] := by cases args; simp_all
  obtain ⟨rfl, rfl⟩ := trodVars_none hV
  have kk0 := h0
  have lt0 : ∀ x ∈ p0, x.block < W.heap.size := by obtain ⟨m, hm⟩ := kk0; exact DataW.trod_lt m _ _ _ hm
  obtain ⟨x0, hk0, w0⟩ : ∃ x, (Kd.slice 39 k39).K W x v0.cells.toList ∧ (x.length ≤ maxLen ∧ x.length * Try.prog.bytesOf 39 ≤ 140737488351232 ∧ ∀ y ∈ x, W39 y) := by
    obtain ⟨fuel, hf⟩ := h0
    exact (opens_slice Try.underlying22 (by kernel_rfl) opens39) hf (fun n hn => by simpa using List.all_eq_true.1 hsz n (DataW.weights_mem_each (j := 0) (t := 22) (d := d0) rfl rfl n hn))
  obtain ⟨a0, len0, cap0, rfl⟩ := okWide_slice Try.underlying22 (hval 0 22 v0 rfl rfl)
  obtain ⟨A0, c0, e0, hc0, hr0⟩ := hk0
  obtain ⟨rfl, rfl, rfl⟩ : a0 = A0 ∧ len0 = x0.length ∧ cap0 = c0 := by simpa [Value.cells] using e0
  have kk1 := h1
  have lt1 : ∀ x ∈ p1, x.block < W.heap.size := by obtain ⟨m, hm⟩ := kk1; exact DataW.trod_lt m _ _ _ hm
  obtain ⟨x1, hk1, w1⟩ : ∃ x, (Kd.int .i64).K W x v1.cells.toList ∧ (Lit.int .i64 x).wf = true := by
    obtain ⟨fuel, hf⟩ := h1
    exact (opens_int Try.underlying3) hf (fun n hn => by simpa using List.all_eq_true.1 hsz n (DataW.weights_mem_each (j := 1) (t := 3) (d := d1) rfl rfl n hn))
  obtain ⟨z1, rfl⟩ := okWide_int Try.underlying3 (hval 1 3 v1 rfl rfl)
  obtain rfl : z1 = x1 := by
    have e : [Value.int .i64 z1] = [Value.int .i64 x1] := hk1
    simpa using e
  have kk2 := h2
  have lt2 : ∀ x ∈ p2, x.block < W.heap.size := by obtain ⟨m, hm⟩ := kk2; exact DataW.trod_lt m _ _ _ hm
  obtain ⟨x2, hk2, w2⟩ : ∃ x, (Kd.int .i64).K W x v2.cells.toList ∧ (Lit.int .i64 x).wf = true := by
    obtain ⟨fuel, hf⟩ := h2
    exact (opens_int Try.underlying3) hf (fun n hn => by simpa using List.all_eq_true.1 hsz n (DataW.weights_mem_each (j := 2) (t := 3) (d := d2) rfl rfl n hn))
  obtain ⟨z2, rfl⟩ := okWide_int Try.underlying3 (hval 2 3 v2 rfl rfl)
  obtain rfl : z2 = x2 := by
    have e : [Value.int .i64 z2] = [Value.int .i64 x2] := hk2
    simpa using e
  have kk3 := h3
  have lt3 : ∀ x ∈ p3, x.block < W.heap.size := by obtain ⟨m, hm⟩ := kk3; exact DataW.trod_lt m _ _ _ hm
  obtain ⟨x3, hk3, w3⟩ : ∃ x, k34.K W x v3.cells.toList ∧ W34 x := by
    obtain ⟨fuel, hf⟩ := h3
    exact opens34 hf (fun n hn => by simpa using List.all_eq_true.1 hsz n (DataW.weights_mem_each (j := 3) (t := 34) (d := d3) rfl rfl n hn))
  obtain ⟨cs3, rfl, hsz3⟩ := okWide_struct Try.underlying34 (hval 3 34 v3 rfl rfl)
  have e3 := k34_open hk3
  obtain rfl : cs3 = #[.int .i64 x3.f0, .string x3.f1] := by apply Array.toList_inj.1; simpa [Value.cells] using e3
  clear hA0 hval0 hsz0 hsz
  obtain ⟨k, h⟩ := PU x0 z1 z2 x3 w0 w1 w2 w3
  refine (careenlaw07_StoreLast.calls (l0 := x0) (a1 := z1) (a2 := z2) (a3_0 := x3.f0) (a3_1 := x3.f1) (r := true) (w := W) (hr0 := hr0) (hc0 := hc0) (h := h)).mono fun e W' ⟨he, bel0⟩ => ?_
  have bel : Below W.heap.size W W' := bel0
  subst he
  exact ⟨_, rfl, _, _, _, [], _, [], hW', trodAll_mk1 (shut_bool Try.underlying4 _), (trodAll_cons_mk (Below.trod laidOut (by kernel_rfl) (of_decide_eq_true (by kernel_rfl)) kk0 bel lt0) (trodAll_cons_mk (Below.trod laidOut (by kernel_rfl) (of_decide_eq_true (by kernel_rfl)) kk1 bel lt1) (trodAll_cons_mk (Below.trod laidOut (by kernel_rfl) (of_decide_eq_true (by kernel_rfl)) kk2 bel lt2) (trodAll_cons_mk (Below.trod laidOut (by kernel_rfl) (of_decide_eq_true (by kernel_rfl)) kk3 bel lt3) trodAll_mk0)))), rfl, bel.frame _, fun h => by cases h⟩
/-- The row follows from the plain statement. -/
theorem holds (PU : Pure) : Rows.StoreLastSaid :=
  OpenClaim.holds_of_wide 4 Try.f4 rfl rfl rfl rfl rfl rfl rfl ⟨rfl, rfl, rfl, rfl, rfl⟩ rfl rfl rfl rfl rfl (by kernel_rfl) Try.func4 (by kernel_rfl)
    (of_decide_eq_true (by kernel_rfl)) (by unfold Func.isWrapper; first | (rw [if_pos (by decide +kernel)]; kernel_rfl) | (rw [if_neg (by decide +kernel)]; exact ⟨rfl, rfl⟩))
    (fun os started H enc _ => lifted PU os started H enc)
end Go.Proofs.Ytneilimiijcghaa.X12.RowStoreLast
