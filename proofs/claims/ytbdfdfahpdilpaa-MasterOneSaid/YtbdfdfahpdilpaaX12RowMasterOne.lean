/- The row of careen/careenlaw12.MasterOne: over its printed contract, a statement on plain values ('Pure') gives the row. -/
import Derived.Test.YtbdfdfahpdilpaaRows
import Derived.Test.YtbdfdfahpdilpaaX12x93
import Derived.Test.YtbdfdfahpdilpaaOpens
import Derived.WalkKit
import Derived.ProofKit
import Derived.OpenShut
import Derived.ShutString
import Derived.ChangeOld
import Derived.Below
import Derived.SizedLaws
namespace Go.Proofs.Ytbdfdfahpdilpaa.X12.RowMasterOne
open Go.ChangeShapes Go.WideShapes Go.ChangeAt Go.RowKit Go.Proofs.Ytbdfdfahpdilpaa.Opens Go.Proofs.YtbdfdfahpdilpaaW.PrintWords
open Go.ChangeMaps (open_string shut_string)
set_option linter.unusedVariables false
theorem own : ownKnob Try.prog.godebug = none := by kernel_rfl
theorem laidOut : laidOutB Try.prog = true := by kernel_rfl
def W61 (x : S61) : Prop := (Lit.int .i64 x.f0).wf = true ∧ (Lit.int .i64 x.f1).wf = true
set_option maxRecDepth 100000 in
theorem opens61 : Opens Try.prog 61 k61 W61 := opens_iso (opens_struct Try.underlying61 (by kernel_rfl) (by kernel_rfl) (opensF_cons (opens_int Try.underlying3) (opensF_one (opens_int Try.underlying3)))) (fun x : S61 => (x.f0, x.f1)) (fun p => ⟨p.1, p.2⟩) (fun _ => rfl)
def W74 (x : S74) : Prop := (Lit.int .i64 x.f0).wf = true ∧ (Lit.int .i64 x.f1).wf = true ∧ (Lit.int .u32 x.f2).wf = true ∧ W61 x.f3 ∧ (x.f4.length ≤ maxLen ∧ x.f4.length * Try.prog.bytesOf 5 ≤ 140737488351232 ∧ ∀ y ∈ x.f4, (Lit.int .u8 y).wf = true)
set_option maxRecDepth 100000 in
theorem opens74 : Opens Try.prog 74 k74 W74 := opens_iso (opens_struct Try.underlying74 (by kernel_rfl) (by kernel_rfl) (opensF_cons (opens_int Try.underlying3) (opensF_cons (opens_int Try.underlying3) (opensF_cons (opens_int Try.underlying62) (opensF_cons opens61 (opensF_one (opens_slice Try.underlying23 (by kernel_rfl) (opens_int Try.underlying5)))))))) (fun x : S74 => (x.f0, x.f1, x.f2, x.f3, x.f4)) (fun p => ⟨p.1, p.2.1, p.2.2.1, p.2.2.2.1, p.2.2.2.2⟩) (fun _ => rfl)
/-- The statement, over plain values. -/
def Pure : Prop := ∀ (x0 : List S74), (x0.length ≤ maxLen ∧ x0.length * Try.prog.bytesOf 74 ≤ 140737488351232 ∧ ∀ y ∈ x0, W74 y) → ∃ k : Nat, careenlaw12_MasterOne.f x0 = some true
set_option maxRecDepth 100000 in
theorem lifted (PU : Pure) (os : Os) (started : os.Started) (H : Type) (enc : TypeId × Value → H) :
    ReturnsInHanded {} Try.checked os 11 .any (Rows.masterOneSpec.pre6 enc Try.prog Try.f11 Rows.masterOneRow.domain false) (Rows.masterOneSpec.post enc Try.prog Try.f11 false true false false) := by
  refine returnsInHanded_of_change_sized (C := Try.checked) own started (by kernel_rfl) Try.func11
    (ChangeSpec.witness6 (enc := enc) (C := Try.checked) false ⟨#[], #[.slice none 0 0], []⟩ 8 (by kernel_rfl) (by kernel_rfl) (by kernel_rfl) (by kernel_rfl)) ?_
  intro W base args ds gs before hval0 hW hcnd hsz0 _
  have hsz : (DataW.weightsEach Try.prog (Try.f11.params.toList ++ Rows.masterOneSpec.plain.varTypes Try.prog) (ds ++ gs)).all (· ≤ reachBytes) = true := hsz0
  have hval : ∀ (j : Nat) t v, Try.f11.params[j]? = some t → args[j]? = some v → Value.okWide Try.prog W .any base t v := hval0
  have hW' := hW
  obtain ⟨p, q, hA0, hV, rfl, hfz, hnd⟩ := hW
  have hA : DataW.TrodAll enc Try.prog W 0 (fun _ => true) true Try.f11.params.toList args.toList ds p := hA0
  rw [Try.params11] at hA hval hsz
  obtain ⟨v0, vs0, d0, ds0, p0, q0, hargs, rfl, rfl, h0, r0⟩ := trodAll_cons hA
  obtain ⟨rfl, rfl, rfl⟩ := trodAll_nil r0
  obtain rfl : args = #[v0] := by cases args; simp_all
  obtain ⟨rfl, rfl⟩ := trodVars_none hV
  have kk0 := h0
  have lt0 : ∀ x ∈ p0, x.block < W.heap.size := by obtain ⟨m, hm⟩ := kk0; exact DataW.trod_lt m _ _ _ hm
  obtain ⟨x0, hk0, w0⟩ : ∃ x, (Kd.slice 74 k74).K W x v0.cells.toList ∧ (x.length ≤ maxLen ∧ x.length * Try.prog.bytesOf 74 ≤ 140737488351232 ∧ ∀ y ∈ x, W74 y) := by
    obtain ⟨fuel, hf⟩ := h0
    exact (opens_slice Try.underlying71 (by kernel_rfl) opens74) hf (fun n hn => by simpa using List.all_eq_true.1 hsz n (DataW.weights_mem_each (j := 0) (t := 71) (d := d0) rfl rfl n hn))
  obtain ⟨a0, len0, cap0, rfl⟩ := okWide_slice Try.underlying71 (hval 0 71 v0 rfl rfl)
  obtain ⟨A0, c0, e0, hc0, hr0⟩ := hk0
  obtain ⟨rfl, rfl, rfl⟩ : a0 = A0 ∧ len0 = x0.length ∧ cap0 = c0 := by simpa [Value.cells] using e0
  clear hA0 hval0 hsz0 hsz
  obtain ⟨k, h⟩ := PU x0 w0
  refine (careenlaw12_MasterOne.calls (l0 := x0) (r := true) (w := W) (hr0 := hr0) (hc0 := hc0) (h := h)).mono fun e W' ⟨he, bel0⟩ => ?_
  have bel : Below W.heap.size W W' := bel0
  subst he
  exact ⟨_, rfl, _, _, _, [], _, [], hW', trodAll_mk1 (shut_bool Try.underlying4 _), (trodAll_cons_mk (Below.trod laidOut (by kernel_rfl) (of_decide_eq_true (by kernel_rfl)) kk0 bel lt0) trodAll_mk0), rfl, bel.frame _, fun h => by cases h⟩
/-- The row follows from the plain statement. -/
theorem holds (PU : Pure) : Rows.MasterOneSaid :=
  OpenClaim.holds_of_wide 11 Try.f11 rfl rfl rfl rfl rfl rfl rfl ⟨rfl, rfl, rfl, rfl, rfl⟩ rfl rfl rfl rfl rfl (by kernel_rfl) Try.func11 (by kernel_rfl)
    (of_decide_eq_true (by kernel_rfl)) (by unfold Func.isWrapper; first | (rw [if_pos (by decide +kernel)]; kernel_rfl) | (rw [if_neg (by decide +kernel)]; exact ⟨rfl, rfl⟩))
    (fun os started H enc _ => lifted PU os started H enc)
end Go.Proofs.Ytbdfdfahpdilpaa.X12.RowMasterOne
