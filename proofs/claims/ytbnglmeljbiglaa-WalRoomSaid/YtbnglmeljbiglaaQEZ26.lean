import Derived.Test.YtbnglmeljbiglaaRows
import Derived.WalkKit
import Derived.ProofKit
import Derived.OpenShut
import Derived.ShutString
import Derived.ChangeOld
import Derived.Below
import Derived.SizedLaws
import Derived.Test.YtbnglmeljbiglaaQEZ0
import Derived.Test.YtbnglmeljbiglaaQEZ1
import Derived.Test.YtbnglmeljbiglaaQEZ2
import Derived.Test.YtbnglmeljbiglaaQEZ3
import Derived.Test.YtbnglmeljbiglaaQEZ4
import Derived.Test.YtbnglmeljbiglaaQEZ5
import Derived.Test.YtbnglmeljbiglaaQEZ6
import Derived.Test.YtbnglmeljbiglaaQEZ7
import Derived.Test.YtbnglmeljbiglaaQEZ8
import Derived.Test.YtbnglmeljbiglaaQEZ9
import Derived.Test.YtbnglmeljbiglaaQEZ10
import Derived.Test.YtbnglmeljbiglaaQEZ11
import Derived.Test.YtbnglmeljbiglaaQEZ12
import Derived.Test.YtbnglmeljbiglaaQEZ13
import Derived.Test.YtbnglmeljbiglaaQEZ14
import Derived.Test.YtbnglmeljbiglaaQEZ15
import Derived.Test.YtbnglmeljbiglaaQEZ16
import Derived.Test.YtbnglmeljbiglaaQEZ17
import Derived.Test.YtbnglmeljbiglaaQEZ18
import Derived.Test.YtbnglmeljbiglaaQEZ19
import Derived.Test.YtbnglmeljbiglaaQEZ20
import Derived.Test.YtbnglmeljbiglaaQEZ21
import Derived.Test.YtbnglmeljbiglaaQEZ22
import Derived.Test.YtbnglmeljbiglaaQEZ23
import Derived.Test.YtbnglmeljbiglaaQEZ24
import Derived.Test.YtbnglmeljbiglaaQEZ25
namespace Go.Proofs.Ytbnglmeljbiglaa.X4.RowWalRoom
open Go.ChangeShapes Go.WideShapes Go.ChangeAt Go.RowKit Go.Proofs.Ytbnglmeljbiglaa.Opens Go.Proofs.YtbnglmeljbiglaaW.PrintWords
open Go.ChangeMaps (open_string shut_string)
set_option linter.unusedVariables false
theorem own : ownKnob Try.prog.godebug = none := by kernel_rfl
theorem laidOut : laidOutB Try.prog = true := by kernel_rfl
def W107 (x : S107) : Prop := (Lit.int .i64 x.f0).wf = true ∧ (Lit.int .i64 x.f1).wf = true ∧ (Lit.int .i64 x.f2).wf = true
set_option maxRecDepth 100000 in
theorem opens107 : Opens Try.prog 107 k107 W107 := opens_iso (opens_struct Try.underlying107 (by kernel_rfl) (by kernel_rfl) (opensF_cons (opens_int Try.underlying3) (opensF_cons (opens_int Try.underlying3) (opensF_one (opens_int Try.underlying3))))) (fun x : S107 => (x.f0, x.f1, x.f2)) (fun p => ⟨p.1, p.2.1, p.2.2⟩) (fun _ => rfl)
def W109 (x : S109) : Prop := (Lit.int .i64 x.f0).wf = true ∧ (Lit.int .i64 x.f1).wf = true
set_option maxRecDepth 100000 in
theorem opens109 : Opens Try.prog 109 k109 W109 := opens_iso (opens_struct Try.underlying109 (by kernel_rfl) (by kernel_rfl) (opensF_cons (opens_int Try.underlying3) (opensF_one (opens_int Try.underlying3)))) (fun x : S109 => (x.f0, x.f1)) (fun p => ⟨p.1, p.2⟩) (fun _ => rfl)
def W37 (x : S37) : Prop := (Lit.int .i64 x.f0).wf = true ∧ (Lit.int .i64 x.f1).wf = true ∧ (Lit.int .i64 x.f2).wf = true ∧ (Lit.int .i64 x.f3).wf = true ∧ (Lit.int .i64 x.f4).wf = true ∧ (Lit.int .i64 x.f5).wf = true ∧ (Lit.int .i64 x.f6).wf = true ∧ x.f7.size ≤ 140737488351232 ∧ x.f8.size ≤ 140737488351232 ∧ (x.f9.length ≤ maxLen ∧ x.f9.length * Try.prog.bytesOf 107 ≤ 140737488351232 ∧ ∀ y ∈ x.f9, W107 y) ∧ (x.f10.length ≤ maxLen ∧ x.f10.length * Try.prog.bytesOf 109 ≤ 140737488351232 ∧ ∀ y ∈ x.f10, W109 y)
set_option maxRecDepth 100000 in
theorem opens37 : Opens Try.prog 37 k37 W37 := opens_iso (opens_struct Try.underlying37 (by kernel_rfl) (by kernel_rfl) (opensF_cons (opens_int Try.underlying3) (opensF_cons (opens_int Try.underlying3) (opensF_cons (opens_int Try.underlying3) (opensF_cons (opens_int Try.underlying3) (opensF_cons (opens_int Try.underlying3) (opensF_cons (opens_int Try.underlying3) (opensF_cons (opens_int Try.underlying3) (opensF_cons (opens_string Try.underlying9) (opensF_cons (opens_string Try.underlying9) (opensF_cons (opens_slice Try.underlying34 (by kernel_rfl) opens107) (opensF_one (opens_slice Try.underlying35 (by kernel_rfl) opens109))))))))))))) (fun x : S37 => (x.f0, x.f1, x.f2, x.f3, x.f4, x.f5, x.f6, x.f7, x.f8, x.f9, x.f10)) (fun p => ⟨p.1, p.2.1, p.2.2.1, p.2.2.2.1, p.2.2.2.2.1, p.2.2.2.2.2.1, p.2.2.2.2.2.2.1, p.2.2.2.2.2.2.2.1, p.2.2.2.2.2.2.2.2.1, p.2.2.2.2.2.2.2.2.2.1, p.2.2.2.2.2.2.2.2.2.2⟩) (fun _ => rfl)
/-- The statement, over plain values. -/
def Pure : Prop := ∀ (x0 : Int) (x1 : List S37) (x2 : List Bool), (Lit.int .i64 x0).wf = true → (x1.length ≤ maxLen ∧ x1.length * Try.prog.bytesOf 37 ≤ 140737488351232 ∧ ∀ y ∈ x1, W37 y) → (x2.length ≤ maxLen ∧ x2.length * Try.prog.bytesOf 4 ≤ 140737488351232 ∧ ∀ y ∈ x2, True) → ∃ k : Nat, careenlaw05_WalRoom.f x0 x1 x2 = some true
set_option maxRecDepth 100000 in
theorem lifted (PU : Pure) (os : Os) (started : os.Started) (H : Type) (enc : TypeId × Value → H) :
    ReturnsInHanded {} Try.checked os 5 .any (Rows.walRoomSpec.pre6 enc Try.prog Try.f5 Rows.walRoomRow.domain false) (Rows.walRoomSpec.post enc Try.prog Try.f5 false true false false) := by
  refine returnsInHanded_of_change_sized (C := Try.checked) own started (by kernel_rfl) Try.func5
    (ChangeSpec.witness6 (enc := enc) (C := Try.checked) false ⟨#[], #[.int .i64 0, .slice none 0 0, .slice none 0 0], []⟩ 8 (by kernel_rfl) (by kernel_rfl) (by kernel_rfl) (by kernel_rfl)) ?_
  intro W base args ds gs before hval0 hW hcnd hsz0 _
  have hsz : (DataW.weightsEach Try.prog (Try.f5.params.toList ++ Rows.walRoomSpec.plain.varTypes Try.prog) (ds ++ gs)).all (· ≤ reachBytes) = true := hsz0
  have hval : ∀ (j : Nat) t v, Try.f5.params[j]? = some t → args[j]? = some v → Value.okWide Try.prog W .any base t v := hval0
  have hW' := hW
  obtain ⟨p, q, hA0, hV, rfl, hfz, hnd⟩ := hW
  have hA : DataW.TrodAll enc Try.prog W 0 (fun _ => true) true Try.f5.params.toList args.toList ds p := hA0
  rw [Try.params5] at hA hval hsz
  obtain ⟨v0, vs0, d0, ds0, p0, q0, hargs, rfl, rfl, h0, r0⟩ := trodAll_cons hA
  obtain ⟨v1, vs1, d1, ds1, p1, q1, rfl, rfl, rfl, h1, r1⟩ := trodAll_cons r0
  obtain ⟨v2, vs2, d2, ds2, p2, q2, rfl, rfl, rfl, h2, r2⟩ := trodAll_cons r1
  obtain ⟨rfl, rfl, rfl⟩ := trodAll_nil r2
  obtain rfl : args = #[v0, v1, v2] := by cases args; simp_all
  obtain ⟨rfl, rfl⟩ := trodVars_none hV
  have kk0 := h0
  have lt0 : ∀ x ∈ p0, x.block < W.heap.size := by obtain ⟨m, hm⟩ := kk0; exact DataW.trod_lt m _ _ _ hm
  obtain ⟨x0, hk0, w0⟩ : ∃ x, (Kd.int .i64).K W x v0.cells.toList ∧ (Lit.int .i64 x).wf = true := by
    obtain ⟨fuel, hf⟩ := h0
    exact (opens_int Try.underlying3) hf (fun n hn => by simpa using List.all_eq_true.1 hsz n (DataW.weights_mem_each (j := 0) (t := 3) (d := d0) rfl rfl n hn))
  obtain ⟨z0, rfl⟩ := okWide_int Try.underlying3 (hval 0 3 v0 rfl rfl)
  obtain rfl : z0 = x0 := by
    have e : [Value.int .i64 z0] = [Value.int .i64 x0] := hk0
    simpa using e
  have kk1 := h1
  have lt1 : ∀ x ∈ p1, x.block < W.heap.size := by obtain ⟨m, hm⟩ := kk1; exact DataW.trod_lt m _ _ _ hm
  obtain ⟨x1, hk1, w1⟩ : ∃ x, (Kd.slice 37 k37).K W x v1.cells.toList ∧ (x.length ≤ maxLen ∧ x.length * Try.prog.bytesOf 37 ≤ 140737488351232 ∧ ∀ y ∈ x, W37 y) := by
    obtain ⟨fuel, hf⟩ := h1
    exact (opens_slice Try.underlying52 (by kernel_rfl) opens37) hf (fun n hn => by simpa using List.all_eq_true.1 hsz n (DataW.weights_mem_each (j := 1) (t := 52) (d := d1) rfl rfl n hn))
  obtain ⟨a1, len1, cap1, rfl⟩ := okWide_slice Try.underlying52 (hval 1 52 v1 rfl rfl)
  obtain ⟨A1, c1, e1, hc1, hr1⟩ := hk1
  obtain ⟨rfl, rfl, rfl⟩ : a1 = A1 ∧ len1 = x1.length ∧ cap1 = c1 := by simpa [Value.cells] using e1
  have kk2 := h2
  have lt2 : ∀ x ∈ p2, x.block < W.heap.size := by obtain ⟨m, hm⟩ := kk2; exact DataW.trod_lt m _ _ _ hm
  obtain ⟨x2, hk2, w2⟩ : ∃ x, (Kd.slice 4 Kd.bool).K W x v2.cells.toList ∧ (x.length ≤ maxLen ∧ x.length * Try.prog.bytesOf 4 ≤ 140737488351232 ∧ ∀ y ∈ x, True) := by
    obtain ⟨fuel, hf⟩ := h2
    exact (opens_slice Try.underlying53 (by kernel_rfl) (opens_bool Try.underlying4)) hf (fun n hn => by simpa using List.all_eq_true.1 hsz n (DataW.weights_mem_each (j := 2) (t := 53) (d := d2) rfl rfl n hn))
  obtain ⟨a2, len2, cap2, rfl⟩ := okWide_slice Try.underlying53 (hval 2 53 v2 rfl rfl)
  obtain ⟨A2, c2, e2, hc2, hr2⟩ := hk2
  obtain ⟨rfl, rfl, rfl⟩ : a2 = A2 ∧ len2 = x2.length ∧ cap2 = c2 := by simpa [Value.cells] using e2
  clear hA0 hval0 hsz0 hsz
  obtain ⟨k, h⟩ := PU z0 x1 x2 w0 w1 w2
  refine (careenlaw05_WalRoom.calls (a0 := z0) (l1 := x1) (l2 := x2) (r := true) (w := W) (hr1 := hr1) (hc1 := hc1) (hr2 := hr2) (hc2 := hc2) (h := h)).mono fun e W' ⟨he, bel0⟩ => ?_
  have bel : Below W.heap.size W W' := bel0
  subst he
  exact ⟨_, rfl, _, _, _, [], _, [], hW', trodAll_mk1 (shut_bool Try.underlying4 _), (trodAll_cons_mk (Below.trod laidOut (by kernel_rfl) (of_decide_eq_true (by kernel_rfl)) kk0 bel lt0) (trodAll_cons_mk (Below.trod laidOut (by kernel_rfl) (of_decide_eq_true (by kernel_rfl)) kk1 bel lt1) (trodAll_cons_mk (Below.trod laidOut (by kernel_rfl) (of_decide_eq_true (by kernel_rfl)) kk2 bel lt2) trodAll_mk0))), rfl, bel.frame _, fun h => by cases h⟩
/-- The row follows from the plain statement. -/
theorem holds (PU : Pure) : Rows.WalRoomSaid :=
  OpenClaim.holds_of_wide 5 Try.f5 rfl rfl rfl rfl rfl rfl rfl ⟨rfl, rfl, rfl, rfl, rfl⟩ rfl rfl rfl rfl rfl (by kernel_rfl) Try.func5 (by kernel_rfl)
    (of_decide_eq_true (by kernel_rfl)) (by unfold Func.isWrapper; first | (rw [if_pos (by decide +kernel)]; kernel_rfl) | (rw [if_neg (by decide +kernel)]; exact ⟨rfl, rfl⟩))
    (fun os started H enc _ => lifted PU os started H enc)
end Go.Proofs.Ytbnglmeljbiglaa.X4.RowWalRoom
