/- The row of careen/careenlaw19.PolicyDue: over its printed contract, a statement on plain values ('Pure') gives the row. -/
import Derived.Test.YtnhlfafdldpdgaaRows
import Derived.Test.YtnhlfafdldpdgaaX19x92
import Derived.Test.YtnhlfafdldpdgaaOpens
import Derived.Test.YtnhlfafdldpdgaaFOpens
import Derived.WalkKit
import Derived.ProofKit
import Derived.OpenShut
import Derived.ShutString
import Derived.ChangeOld
import Derived.Below
import Derived.SizedLaws
namespace Go.Proofs.Ytnhlfafdldpdgaa.X19.RowPolicyDue
open Go.ChangeShapes Go.WideShapes Go.ChangeAt Go.RowKit Go.Proofs.Ytnhlfafdldpdgaa.Opens Go.Proofs.YtnhlfafdldpdgaaW.PrintWords
open Go.ChangeMaps (open_string shut_string)
set_option linter.unusedVariables false
theorem own : ownKnob Try.prog.godebug = none := by kernel_rfl
theorem laidOut : laidOutB Try.prog = true := by kernel_rfl
/-- The statement, over plain values. -/
def Pure : Prop := ∀ (x0 : UInt64) (x1 : UInt64) (x2 : UInt64) (x3 : UInt64) (x4 : UInt64), ∃ k : Nat, careenlaw19_PolicyDue.f x0 x1 x2 x3 x4 = some true
set_option maxRecDepth 100000 in
theorem lifted (PU : Pure) (os : Os) (started : os.Started) (H : Type) (enc : TypeId × Value → H) :
    ReturnsInHanded {} Try.checked os 16 .any (Rows.policyDueSpec.pre6 enc Try.prog Try.f16 Rows.policyDueRow.domain false) (Rows.policyDueSpec.post enc Try.prog Try.f16 false true false false) := by
  refine returnsInHanded_of_change_sized (C := Try.checked) own started (by kernel_rfl) Try.func16
    (ChangeSpec.witness6 (enc := enc) (C := Try.checked) false ⟨#[], #[.float .f64 0, .float .f64 0, .float .f64 0, .float .f64 0, .float .f64 0], []⟩ 8 (by kernel_rfl) (by kernel_rfl) (by kernel_rfl) (by kernel_rfl)) ?_
  intro W base args ds gs before hval0 hW hcnd hsz0 _
  have hsz : (DataW.weightsEach Try.prog (Try.f16.params.toList ++ Rows.policyDueSpec.plain.varTypes Try.prog) (ds ++ gs)).all (· ≤ reachBytes) = true := hsz0
  have hval : ∀ (j : Nat) t v, Try.f16.params[j]? = some t → args[j]? = some v → Value.okWide Try.prog W .any base t v := hval0
  have hW' := hW
  obtain ⟨p, q, hA0, hV, rfl, hfz, hnd⟩ := hW
  have hA : DataW.TrodAll enc Try.prog W 0 (fun _ => true) true Try.f16.params.toList args.toList ds p := hA0
  rw [Try.params16] at hA hval hsz
  obtain ⟨v0, vs0, d0, ds0, p0, q0, hargs, rfl, rfl, h0, r0⟩ := trodAll_cons hA
  obtain ⟨v1, vs1, d1, ds1, p1, q1, rfl, rfl, rfl, h1, r1⟩ := trodAll_cons r0
  obtain ⟨v2, vs2, d2, ds2, p2, q2, rfl, rfl, rfl, h2, r2⟩ := trodAll_cons r1
  obtain ⟨v3, vs3, d3, ds3, p3, q3, rfl, rfl, rfl, h3, r3⟩ := trodAll_cons r2
  obtain ⟨v4, vs4, d4, ds4, p4, q4, rfl, rfl, rfl, h4, r4⟩ := trodAll_cons r3
  obtain ⟨rfl, rfl, rfl⟩ := trodAll_nil r4
  obtain rfl : args = #[v0, v1, v2, v3, v4] := by cases args; simp_all
  obtain ⟨rfl, rfl⟩ := trodVars_none hV
  have kk0 := h0
  have lt0 : ∀ x ∈ p0, x.block < W.heap.size := by obtain ⟨m, hm⟩ := kk0; exact DataW.trod_lt m _ _ _ hm
  obtain ⟨x0, hk0, w0⟩ : ∃ x, Go.Proofs.Ytnhlfafdldpdgaa.Cell.kf.K W x v0.cells.toList ∧ True := by
    obtain ⟨fuel, hf⟩ := h0
    exact (opens_float Try.underlying22) hf (fun n hn => by simpa using List.all_eq_true.1 hsz n (DataW.weights_mem_each (j := 0) (t := 22) (d := d0) rfl rfl n hn))
  obtain ⟨z0, rfl⟩ := okWide_float Try.underlying22 (hval 0 22 v0 rfl rfl)
  obtain rfl : z0 = x0.toNat := by
    have e : [Value.float .f64 z0] = [Value.float .f64 x0.toNat] := hk0
    simpa using e
  have kk1 := h1
  have lt1 : ∀ x ∈ p1, x.block < W.heap.size := by obtain ⟨m, hm⟩ := kk1; exact DataW.trod_lt m _ _ _ hm
  obtain ⟨x1, hk1, w1⟩ : ∃ x, Go.Proofs.Ytnhlfafdldpdgaa.Cell.kf.K W x v1.cells.toList ∧ True := by
    obtain ⟨fuel, hf⟩ := h1
    exact (opens_float Try.underlying22) hf (fun n hn => by simpa using List.all_eq_true.1 hsz n (DataW.weights_mem_each (j := 1) (t := 22) (d := d1) rfl rfl n hn))
  obtain ⟨z1, rfl⟩ := okWide_float Try.underlying22 (hval 1 22 v1 rfl rfl)
  obtain rfl : z1 = x1.toNat := by
    have e : [Value.float .f64 z1] = [Value.float .f64 x1.toNat] := hk1
    simpa using e
  have kk2 := h2
  have lt2 : ∀ x ∈ p2, x.block < W.heap.size := by obtain ⟨m, hm⟩ := kk2; exact DataW.trod_lt m _ _ _ hm
  obtain ⟨x2, hk2, w2⟩ : ∃ x, Go.Proofs.Ytnhlfafdldpdgaa.Cell.kf.K W x v2.cells.toList ∧ True := by
    obtain ⟨fuel, hf⟩ := h2
    exact (opens_float Try.underlying22) hf (fun n hn => by simpa using List.all_eq_true.1 hsz n (DataW.weights_mem_each (j := 2) (t := 22) (d := d2) rfl rfl n hn))
  obtain ⟨z2, rfl⟩ := okWide_float Try.underlying22 (hval 2 22 v2 rfl rfl)
  obtain rfl : z2 = x2.toNat := by
    have e : [Value.float .f64 z2] = [Value.float .f64 x2.toNat] := hk2
    simpa using e
  have kk3 := h3
  have lt3 : ∀ x ∈ p3, x.block < W.heap.size := by obtain ⟨m, hm⟩ := kk3; exact DataW.trod_lt m _ _ _ hm
  obtain ⟨x3, hk3, w3⟩ : ∃ x, Go.Proofs.Ytnhlfafdldpdgaa.Cell.kf.K W x v3.cells.toList ∧ True := by
    obtain ⟨fuel, hf⟩ := h3
    exact (opens_float Try.underlying22) hf (fun n hn => by simpa using List.all_eq_true.1 hsz n (DataW.weights_mem_each (j := 3) (t := 22) (d := d3) rfl rfl n hn))
  obtain ⟨z3, rfl⟩ := okWide_float Try.underlying22 (hval 3 22 v3 rfl rfl)
  obtain rfl : z3 = x3.toNat := by
    have e : [Value.float .f64 z3] = [Value.float .f64 x3.toNat] := hk3
    simpa using e
  have kk4 := h4
  have lt4 : ∀ x ∈ p4, x.block < W.heap.size := by obtain ⟨m, hm⟩ := kk4; exact DataW.trod_lt m _ _ _ hm
  obtain ⟨x4, hk4, w4⟩ : ∃ x, Go.Proofs.Ytnhlfafdldpdgaa.Cell.kf.K W x v4.cells.toList ∧ True := by
    obtain ⟨fuel, hf⟩ := h4
    exact (opens_float Try.underlying22) hf (fun n hn => by simpa using List.all_eq_true.1 hsz n (DataW.weights_mem_each (j := 4) (t := 22) (d := d4) rfl rfl n hn))
  obtain ⟨z4, rfl⟩ := okWide_float Try.underlying22 (hval 4 22 v4 rfl rfl)
  obtain rfl : z4 = x4.toNat := by
    have e : [Value.float .f64 z4] = [Value.float .f64 x4.toNat] := hk4
    simpa using e
  clear hA0 hval0 hsz0 hsz
  obtain ⟨k, h⟩ := PU x0 x1 x2 x3 x4
  refine (careenlaw19_PolicyDue.calls (a0 := x0) (a1 := x1) (a2 := x2) (a3 := x3) (a4 := x4) (r := true) (w := W)  (h := h)).mono fun e W' ⟨he, bel0⟩ => ?_
  have bel : Below W.heap.size W W' := bel0
  subst he
  exact ⟨_, rfl, _, _, _, [], _, [], hW', trodAll_mk1 (shut_bool Try.underlying4 _), (trodAll_cons_mk (Below.trod laidOut (by kernel_rfl) (of_decide_eq_true (by kernel_rfl)) kk0 bel lt0) (trodAll_cons_mk (Below.trod laidOut (by kernel_rfl) (of_decide_eq_true (by kernel_rfl)) kk1 bel lt1) (trodAll_cons_mk (Below.trod laidOut (by kernel_rfl) (of_decide_eq_true (by kernel_rfl)) kk2 bel lt2) (trodAll_cons_mk (Below.trod laidOut (by kernel_rfl) (of_decide_eq_true (by kernel_rfl)) kk3 bel lt3) (trodAll_cons_mk (Below.trod laidOut (by kernel_rfl) (of_decide_eq_true (by kernel_rfl)) kk4 bel lt4) trodAll_mk0))))), rfl, bel.frame _, fun h => by cases h⟩
/-- The row follows from the plain statement. -/
theorem holds (PU : Pure) : Rows.PolicyDueSaid :=
  OpenClaim.holds_of_wide 16 Try.f16 rfl rfl rfl rfl rfl rfl rfl ⟨rfl, rfl, rfl, rfl, rfl⟩ rfl rfl rfl rfl rfl (by kernel_rfl) Try.func16 (by kernel_rfl)
    (of_decide_eq_true (by kernel_rfl)) (by unfold Func.isWrapper; first | (rw [if_pos (by decide +kernel)]; kernel_rfl) | (rw [if_neg (by decide +kernel)]; exact ⟨rfl, rfl⟩))
    (fun os started H enc _ => lifted PU os started H enc)
end Go.Proofs.Ytnhlfafdldpdgaa.X19.RowPolicyDue
