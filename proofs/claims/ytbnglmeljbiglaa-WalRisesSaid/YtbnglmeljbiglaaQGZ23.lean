import Derived.Test.YtbnglmeljbiglaaRows
import Derived.WalkKit
import Derived.ProofKit
import Derived.OpenShut
import Derived.ShutString
import Derived.ChangeOld
import Derived.Below
import Derived.SizedLaws
import Derived.Test.YtbnglmeljbiglaaQGZ0
import Derived.Test.YtbnglmeljbiglaaQGZ1
import Derived.Test.YtbnglmeljbiglaaQGZ2
import Derived.Test.YtbnglmeljbiglaaQGZ3
import Derived.Test.YtbnglmeljbiglaaQGZ4
import Derived.Test.YtbnglmeljbiglaaQGZ5
import Derived.Test.YtbnglmeljbiglaaQGZ6
import Derived.Test.YtbnglmeljbiglaaQGZ7
import Derived.Test.YtbnglmeljbiglaaQGZ8
import Derived.Test.YtbnglmeljbiglaaQGZ9
import Derived.Test.YtbnglmeljbiglaaQGZ10
import Derived.Test.YtbnglmeljbiglaaQGZ11
import Derived.Test.YtbnglmeljbiglaaQGZ12
import Derived.Test.YtbnglmeljbiglaaQGZ13
import Derived.Test.YtbnglmeljbiglaaQGZ14
import Derived.Test.YtbnglmeljbiglaaQGZ15
import Derived.Test.YtbnglmeljbiglaaQGZ16
import Derived.Test.YtbnglmeljbiglaaQGZ17
import Derived.Test.YtbnglmeljbiglaaQGZ18
import Derived.Test.YtbnglmeljbiglaaQGZ19
import Derived.Test.YtbnglmeljbiglaaQGZ20
import Derived.Test.YtbnglmeljbiglaaQGZ21
import Derived.Test.YtbnglmeljbiglaaQGZ22
namespace Go.Proofs.Ytbnglmeljbiglaa.X4.RowWalRises
open Go.ChangeShapes Go.WideShapes Go.ChangeAt Go.RowKit Go.Proofs.Ytbnglmeljbiglaa.Opens Go.Proofs.YtbnglmeljbiglaaW.PrintWords
open Go.ChangeMaps (open_string shut_string)
set_option linter.unusedVariables false
theorem own : ownKnob Try.prog.godebug = none := by kernel_rfl
theorem laidOut : laidOutB Try.prog = true := by kernel_rfl
def W107 (x : S107) : Prop := (Lit.int .i64 x.f0).wf = true ∧ (Lit.int .i64 x.f1).wf = true ∧ (Lit.int .i64 x.f2).wf = true
set_option maxRecDepth 100000 in
theorem opens107 : Opens Try.prog 107 k107 W107 := opens_iso (opens_struct Try.underlying107 (by kernel_rfl) (by kernel_rfl) (opensF_cons (opens_int Try.underlying3) (opensF_cons (opens_int Try.underlying3) (opensF_one (opens_int Try.underlying3))))) (fun x : S107 => (x.f0, x.f1, x.f2)) (fun p => ⟨p.1, p.2.1, p.2.2⟩) (fun _ => rfl)
def W109 (x : S109) : Prop := (Lit.int .i64 x.f0).wf = true ∧ (Lit.int .i64 x.f1).wf = true
set_option maxRecDepth 100000 in
theorem opens109 : Opens Try.prog 109 k109 W109 := opens_iso (opens_struct Try.underlying109 (by kernel_rfl) (by kernel_rfl) (opensF_cons (opens_int Try.underlying3) (opensF_one (opens_int Try.underlying3)))) (fun x : S109 => (x.f0, x.f1)) (fun p => ⟨p.1, p.2⟩) (fun _ => rfl)
def W37 (x : S37) : Prop := (Lit.int .i64 x.f0).wf = true ∧ (Lit.int .i64 x.f1).wf = true ∧ (Lit.int .i64 x.f2).wf = true ∧ (Lit.int .i64 x.f3).wf = true ∧ (Lit.int .i64 x.f4).wf = true ∧ (Lit.int .i64 x.f5).wf = true ∧ (Lit.int .i64 x.f6).wf = true ∧ x.f7.size ≤ 140737488351232 ∧ x.f8.size ≤ 140737488351232 ∧ (x.f9.length ≤ maxLen ∧ x.f9.length * Try.prog.bytesOf 107 ≤ 140737488351232 ∧ ∀ y ∈ x.f9, W107 y) ∧ (x.f10.length ≤ maxLen ∧ x.f10.length * Try.prog.bytesOf 109 ≤ 140737488351232 ∧ ∀ y ∈ x.f10, W109 y)
set_option maxRecDepth 100000 in
theorem opens37 : Opens Try.prog 37 k37 W37 := opens_iso (opens_struct Try.underlying37 (by kernel_rfl) (by kernel_rfl) (opensF_cons (opens_int Try.underlying3) (opensF_cons (opens_int Try.underlying3) (opensF_cons (opens_int Try.underlying3) (opensF_cons (opens_int Try.underlying3) (opensF_cons (opens_int Try.underlying3) (opensF_cons (opens_int Try.underlying3) (opensF_cons (opens_int Try.underlying3) (opensF_cons (opens_string Try.underlying9) (opensF_cons (opens_string Try.underlying9) (opensF_cons (opens_slice Try.underlying34 (by kernel_rfl) opens107) (opensF_one (opens_slice Try.underlying35 (by kernel_rfl) opens109))))))))))))) (fun x : S37 => (x.f0, x.f1, x.f2, x.f3, x.f4, x.f5, x.f6, x.f7, x.f8, x.f9, x.f10)) (fun p => ⟨p.1, p.2.1, p.2.2.1, p.2.2.2.1, p.2.2.2.2.1, p.2.2.2.2.2.1, p.2.2.2.2.2.2.1, p.2.2.2.2.2.2.2.1, p.2.2.2.2.2.2.2.2.1, p.2.2.2.2.2.2.2.2.2.1, p.2.2.2.2.2.2.2.2.2.2⟩) (fun _ => rfl)
/-- The statement, over plain values. -/
def Pure : Prop := ∀ (x0 : List S37) (x1 : Int), (x0.length ≤ maxLen ∧ x0.length * Try.prog.bytesOf 37 ≤ 140737488351232 ∧ ∀ y ∈ x0, W37 y) → (Lit.int .i64 x1).wf = true → ∃ k : Nat, careenlaw05_WalRises.f x0 x1 = some true
set_option maxRecDepth 100000 in
theorem lifted (PU : Pure) (os : Os) (started : os.Started) (H : Type) (enc : TypeId × Value → H) :
    ReturnsInHanded {} Try.checked os 6 .any (Rows.walRisesSpec.pre6 enc Try.prog Try.f6 Rows.walRisesRow.domain false) (Rows.walRisesSpec.post enc Try.prog Try.f6 false true false false) := by
  refine returnsInHanded_of_change_sized (C := Try.checked) own started (by kernel_rfl) Try.func6
    (ChangeSpec.witness6 (enc := enc) (C := Try.checked) false ⟨#[], #[.slice none 0 0, .int .i64 0], []⟩ 8 (by kernel_rfl) (by kernel_rfl) (by kernel_rfl) (by kernel_rfl)) ?_
  intro W base args ds gs before hval0 hW hcnd hsz0 _
  have hsz : (DataW.weightsEach Try.prog (Try.f6.params.toList ++ Rows.walRisesSpec.plain.varTypes Try.prog) (ds ++ gs)).all (· ≤ reachBytes) = true := hsz0
  have hval : ∀ (j : Nat) t v, Try.f6.params[j]? = some t → args[j]? = some v → Value.okWide Try.prog W .any base t v := hval0
  have hW' := hW
  obtain ⟨p, q, hA0, hV, rfl, hfz, hnd⟩ := hW
  have hA : DataW.TrodAll enc Try.prog W 0 (fun _ => true) true Try.f6.params.toList args.toList ds p := hA0
  rw [Try.params6] at hA hval hsz
  obtain ⟨v0, vs0, d0, ds0, p0, q0, hargs, rfl, rfl, h0, r0⟩ := trodAll_cons hA
  obtain ⟨v1, vs1, d1, ds1, p1, q1, rfl, rfl, rfl, h1, r1⟩ := trodAll_cons r0
  obtain ⟨rfl, rfl, rfl⟩ := trodAll_nil r1
  obtain rfl : args = #[v0, v1] := by cases args; simp_all
  obtain ⟨rfl, rfl⟩ := trodVars_none hV
  have kk0 := h0
  have lt0 : ∀ x ∈ p0, x.block < W.heap.size := by obtain ⟨m, hm⟩ := kk0; exact DataW.trod_lt m _ _ _ hm
  obtain ⟨x0, hk0, w0⟩ : ∃ x, (Kd.slice 37 k37).K W x v0.cells.toList ∧ (x.length ≤ maxLen ∧ x.length * Try.prog.bytesOf 37 ≤ 140737488351232 ∧ ∀ y ∈ x, W37 y) := by
    obtain ⟨fuel, hf⟩ := h0
    exact (opens_slice Try.underlying52 (by kernel_rfl) opens37) hf (fun n hn => by simpa using List.all_eq_true.1 hsz n (DataW.weights_mem_each (j := 0) (t := 52) (d := d0) rfl rfl n hn))
  obtain ⟨a0, len0, cap0, rfl⟩ := okWide_slice Try.underlying52 (hval 0 52 v0 rfl rfl)
  obtain ⟨A0, c0, e0, hc0, hr0⟩ := hk0
  obtain ⟨rfl, rfl, rfl⟩ : a0 = A0 ∧ len0 = x0.length ∧ cap0 = c0 := by simpa [Value.cells] using e0
  have kk1 := h1
  have lt1 : ∀ x ∈ p1, x.block < W.heap.size := by obtain ⟨m, hm⟩ := kk1; exact DataW.trod_lt m _ _ _ hm
  obtain ⟨x1, hk1, w1⟩ : ∃ x, (Kd.int .i64).K W x v1.cells.toList ∧ (Lit.int .i64 x).wf = true := by
    obtain ⟨fuel, hf⟩ := h1
    exact (opens_int Try.underlying3) hf (fun n hn => by simpa using List.all_eq_true.1 hsz n (DataW.weights_mem_each (j := 1) (t := 3) (d := d1) rfl rfl n hn))
  obtain ⟨z1, rfl⟩ := okWide_int Try.underlying3 (hval 1 3 v1 rfl rfl)
  obtain rfl : z1 = x1 := by
    have e : [Value.int .i64 z1] = [Value.int .i64 x1] := hk1
    simpa using e
  clear hA0 hval0 hsz0 hsz
  obtain ⟨k, h⟩ := PU x0 z1 w0 w1
  refine (careenlaw05_WalRises.calls (l0 := x0) (a1 := z1) (r := true) (w := W) (hr0 := hr0) (hc0 := hc0) (h := h)).mono fun e W' ⟨he, bel0⟩ => ?_
  have bel : Below W.heap.size W W' := bel0
  subst he
  exact ⟨_, rfl, _, _, _, [], _, [], hW', trodAll_mk1 (shut_bool Try.underlying4 _), (trodAll_cons_mk (Below.trod laidOut (by kernel_rfl) (of_decide_eq_true (by kernel_rfl)) kk0 bel lt0) (trodAll_cons_mk (Below.trod laidOut (by kernel_rfl) (of_decide_eq_true (by kernel_rfl)) kk1 bel lt1) trodAll_mk0)), rfl, bel.frame _, fun h => by cases h⟩
/-- The row follows from the plain statement. -/
theorem holds (PU : Pure) : Rows.WalRisesSaid :=
  OpenClaim.holds_of_wide 6 Try.f6 rfl rfl rfl rfl rfl rfl rfl ⟨rfl, rfl, rfl, rfl, rfl⟩ rfl rfl rfl rfl rfl (by kernel_rfl) Try.func6 (by kernel_rfl)
    (of_decide_eq_true (by kernel_rfl)) (by unfold Func.isWrapper; first | (rw [if_pos (by decide +kernel)]; kernel_rfl) | (rw [if_neg (by decide +kernel)]; exact ⟨rfl, rfl⟩))
    (fun os started H enc _ => lifted PU os started H enc)
end Go.Proofs.Ytbnglmeljbiglaa.X4.RowWalRises
