import Derived.Test.YtcfknakmamcinaaRows
import Derived.WalkKit
import Derived.ProofKit
import Derived.OpenShut
import Derived.ShutString
import Derived.ChangeOld
import Derived.Below
import Derived.SizedLaws
import Derived.Test.YtcfknakmamcinaaQBZ0
import Derived.Test.YtcfknakmamcinaaQBZ1
import Derived.Test.YtcfknakmamcinaaQBZ2
import Derived.Test.YtcfknakmamcinaaQBZ3
import Derived.Test.YtcfknakmamcinaaQBZ4
import Derived.Test.YtcfknakmamcinaaQBZ5
import Derived.Test.YtcfknakmamcinaaQBZ6
import Derived.Test.YtcfknakmamcinaaQBZ7
import Derived.Test.YtcfknakmamcinaaQBZ8
import Derived.Test.YtcfknakmamcinaaQBZ9
import Derived.Test.YtcfknakmamcinaaQBZ10
import Derived.Test.YtcfknakmamcinaaQBZ11
import Derived.Test.YtcfknakmamcinaaQBZ12
import Derived.Test.YtcfknakmamcinaaQBZ13
import Derived.Test.YtcfknakmamcinaaQBZ14
import Derived.Test.YtcfknakmamcinaaQBZ15
import Derived.Test.YtcfknakmamcinaaQBZ16
import Derived.Test.YtcfknakmamcinaaQBZ17
import Derived.Test.YtcfknakmamcinaaQBZ18
import Derived.Test.YtcfknakmamcinaaQBZ21
namespace Go.Proofs.Ytcfknakmamcinaa.X4b.RowRecordOne
open Go.Proofs.Ytcfknakmamcinaa.X4 Go.ChangeShapes Go.WideShapes Go.ChangeAt Go.RowKit Go.Proofs.Ytcfknakmamcinaa.Opens Go.Proofs.YtcfknakmamcinaaW.PrintWords
open Go.ChangeMaps (open_string shut_string)
set_option linter.unusedVariables false
theorem own : ownKnob Try.prog.godebug = none := by kernel_rfl
theorem laidOut : laidOutB Try.prog = true := by kernel_rfl
def W66 (x : S66) : Prop := (Lit.int .i64 x.f0).wf = true ∧ (Lit.int .i64 x.f1).wf = true ∧ (Lit.int .i64 x.f2).wf = true
set_option maxRecDepth 100000 in
theorem opens66 : Opens Try.prog 66 k66 W66 := opens_iso (opens_struct Try.underlying66 (by kernel_rfl) (by kernel_rfl) (opensF_cons (opens_int Try.underlying3) (opensF_cons (opens_int Try.underlying3) (opensF_one (opens_int Try.underlying3))))) (fun x : S66 => (x.f0, x.f1, x.f2)) (fun p => ⟨p.1, p.2.1, p.2.2⟩) (fun _ => rfl)
def W68 (x : S68) : Prop := (Lit.int .i64 x.f0).wf = true ∧ (Lit.int .i64 x.f1).wf = true
set_option maxRecDepth 100000 in
theorem opens68 : Opens Try.prog 68 k68 W68 := opens_iso (opens_struct Try.underlying68 (by kernel_rfl) (by kernel_rfl) (opensF_cons (opens_int Try.underlying3) (opensF_one (opens_int Try.underlying3)))) (fun x : S68 => (x.f0, x.f1)) (fun p => ⟨p.1, p.2⟩) (fun _ => rfl)
def W25 (x : S25) : Prop := (Lit.int .i64 x.f0).wf = true ∧ (Lit.int .i64 x.f1).wf = true ∧ (Lit.int .i64 x.f2).wf = true ∧ (Lit.int .i64 x.f3).wf = true ∧ (Lit.int .i64 x.f4).wf = true ∧ (Lit.int .i64 x.f5).wf = true ∧ (Lit.int .i64 x.f6).wf = true ∧ x.f7.size ≤ 140737488351232 ∧ x.f8.size ≤ 140737488351232 ∧ (x.f9.length ≤ maxLen ∧ x.f9.length * Try.prog.bytesOf 66 ≤ 140737488351232 ∧ ∀ y ∈ x.f9, W66 y) ∧ (x.f10.length ≤ maxLen ∧ x.f10.length * Try.prog.bytesOf 68 ≤ 140737488351232 ∧ ∀ y ∈ x.f10, W68 y)
set_option maxRecDepth 100000 in
theorem opens25 : Opens Try.prog 25 k25 W25 := opens_iso (opens_struct Try.underlying25 (by kernel_rfl) (by kernel_rfl) (opensF_cons (opens_int Try.underlying3) (opensF_cons (opens_int Try.underlying3) (opensF_cons (opens_int Try.underlying3) (opensF_cons (opens_int Try.underlying3) (opensF_cons (opens_int Try.underlying3) (opensF_cons (opens_int Try.underlying3) (opensF_cons (opens_int Try.underlying3) (opensF_cons (opens_string Try.underlying9) (opensF_cons (opens_string Try.underlying9) (opensF_cons (opens_slice Try.underlying22 (by kernel_rfl) opens66) (opensF_one (opens_slice Try.underlying23 (by kernel_rfl) opens68))))))))))))) (fun x : S25 => (x.f0, x.f1, x.f2, x.f3, x.f4, x.f5, x.f6, x.f7, x.f8, x.f9, x.f10)) (fun p => ⟨p.1, p.2.1, p.2.2.1, p.2.2.2.1, p.2.2.2.2.1, p.2.2.2.2.2.1, p.2.2.2.2.2.2.1, p.2.2.2.2.2.2.2.1, p.2.2.2.2.2.2.2.2.1, p.2.2.2.2.2.2.2.2.2.1, p.2.2.2.2.2.2.2.2.2.2⟩) (fun _ => rfl)
/-- The statement, over plain values. -/
def Pure : Prop := ∀ (x0 : S25) (x1 : S25), W25 x0 → W25 x1 → ∃ k : Nat, careenlaw04_RecordOne.f k (x0.f0) (x0.f1) (x0.f2) (x0.f3) (x0.f4) (x0.f5) (x0.f6) (x0.f7) (x0.f8) (x0.f9) (x0.f10) (x1.f0) (x1.f1) (x1.f2) (x1.f3) (x1.f4) (x1.f5) (x1.f6) (x1.f7) (x1.f8) (x1.f9) (x1.f10) = some true
set_option maxRecDepth 100000 in
theorem lifted (PU : Pure) (os : Os) (started : os.Started) (H : Type) (enc : TypeId × Value → H) :
    ReturnsInHanded {} Try.checked os 6 .any (Rows.recordOneSpec.pre6 enc Try.prog Try.f6 Rows.recordOneRow.domain false) (Rows.recordOneSpec.post enc Try.prog Try.f6 false true false false) := by
  refine returnsInHanded_of_change_sized (C := Try.checked) own started (by kernel_rfl) Try.func6
    (ChangeSpec.witness6 (enc := enc) (C := Try.checked) false ⟨#[], #[.agg #[.int .i64 0, .int .i64 0, .int .i64 0, .int .i64 0, .int .i64 0, .int .i64 0, .int .i64 0, .string ByteArray.empty, .string ByteArray.empty, .slice none 0 0, .slice none 0 0], .agg #[.int .i64 0, .int .i64 0, .int .i64 0, .int .i64 0, .int .i64 0, .int .i64 0, .int .i64 0, .string ByteArray.empty, .string ByteArray.empty, .slice none 0 0, .slice none 0 0]], []⟩ 8 (by kernel_rfl) (by kernel_rfl) (by kernel_rfl) (by kernel_rfl)) ?_
  intro W base args ds gs before hval0 hW hcnd hsz0 _
  have hsz : (DataW.weightsEach Try.prog (Try.f6.params.toList ++ Rows.recordOneSpec.plain.varTypes Try.prog) (ds ++ gs)).all (· ≤ reachBytes) = true := hsz0
  have hval : ∀ (j : Nat) t v, Try.f6.params[j]? = some t → args[j]? = some v → Value.okWide Try.prog W .any base t v := hval0
  have hW' := hW
  obtain ⟨p, q, hA0, hV, rfl, hfz, hnd⟩ := hW
  have hA : DataW.TrodAll enc Try.prog W 0 (fun _ => true) true Try.f6.params.toList args.toList ds p := hA0
  rw [Try.params6] at hA hval hsz
  obtain ⟨v0, vs0, d0, ds0, p0, q0, hargs, rfl, rfl, h0, r0⟩ := trodAll_cons hA
  obtain ⟨v1, vs1, d1, ds1, p1, q1, rfl, rfl, rfl, h1, r1⟩ := trodAll_cons r0
  obtain ⟨rfl, rfl, rfl⟩ := trodAll_nil r1
  obtain rfl : args = #[v0, v1] := by cases args; simp_all
  obtain ⟨rfl, rfl⟩ := trodVars_none hV
  have kk0 := h0
  have lt0 : ∀ x ∈ p0, x.block < W.heap.size := by obtain ⟨m, hm⟩ := kk0; exact DataW.trod_lt m _ _ _ hm
  obtain ⟨x0, hk0, w0⟩ : ∃ x, k25.K W x v0.cells.toList ∧ W25 x := by
    obtain ⟨fuel, hf⟩ := h0
    exact opens25 hf (fun n hn => by simpa using List.all_eq_true.1 hsz n (DataW.weights_mem_each (j := 0) (t := 25) (d := d0) rfl rfl n hn))
  obtain ⟨cs0, rfl, hsz0⟩ := okWide_struct Try.underlying25 (hval 0 25 v0 rfl rfl)
  obtain ⟨A0_9, c0_9, A0_10, c0_10, e0, l0_9, g0_9, l0_10, g0_10⟩ := k25_open hk0
  obtain rfl : cs0 = #[.int .i64 x0.f0, .int .i64 x0.f1, .int .i64 x0.f2, .int .i64 x0.f3, .int .i64 x0.f4, .int .i64 x0.f5, .int .i64 x0.f6, .string x0.f7, .string x0.f8, .slice A0_9 x0.f9.length c0_9, .slice A0_10 x0.f10.length c0_10] := by apply Array.toList_inj.1; simpa [Value.cells] using e0
  have kk1 := h1
  have lt1 : ∀ x ∈ p1, x.block < W.heap.size := by obtain ⟨m, hm⟩ := kk1; exact DataW.trod_lt m _ _ _ hm
  obtain ⟨x1, hk1, w1⟩ : ∃ x, k25.K W x v1.cells.toList ∧ W25 x := by
    obtain ⟨fuel, hf⟩ := h1
    exact opens25 hf (fun n hn => by simpa using List.all_eq_true.1 hsz n (DataW.weights_mem_each (j := 1) (t := 25) (d := d1) rfl rfl n hn))
  obtain ⟨cs1, rfl, hsz1⟩ := okWide_struct Try.underlying25 (hval 1 25 v1 rfl rfl)
  obtain ⟨A1_9, c1_9, A1_10, c1_10, e1, l1_9, g1_9, l1_10, g1_10⟩ := k25_open hk1
  obtain rfl : cs1 = #[.int .i64 x1.f0, .int .i64 x1.f1, .int .i64 x1.f2, .int .i64 x1.f3, .int .i64 x1.f4, .int .i64 x1.f5, .int .i64 x1.f6, .string x1.f7, .string x1.f8, .slice A1_9 x1.f9.length c1_9, .slice A1_10 x1.f10.length c1_10] := by apply Array.toList_inj.1; simpa [Value.cells] using e1
  clear hA0 hval0 hsz0 hsz
  obtain ⟨k, h⟩ := PU x0 x1 w0 w1
  refine (careenlaw04_RecordOne.calls (k := k) (a0_0 := x0.f0) (a0_1 := x0.f1) (a0_2 := x0.f2) (a0_3 := x0.f3) (a0_4 := x0.f4) (a0_5 := x0.f5) (a0_6 := x0.f6) (a0_7 := x0.f7) (a0_8 := x0.f8) (l0_9 := x0.f9) (l0_10 := x0.f10) (a1_0 := x1.f0) (a1_1 := x1.f1) (a1_2 := x1.f2) (a1_3 := x1.f3) (a1_4 := x1.f4) (a1_5 := x1.f5) (a1_6 := x1.f6) (a1_7 := x1.f7) (a1_8 := x1.f8) (l1_9 := x1.f9) (l1_10 := x1.f10) (r := true) (w := W) (hr0_9 := g0_9) (hc0_9 := l0_9) (hr0_10 := g0_10) (hc0_10 := l0_10) (hr1_9 := g1_9) (hc1_9 := l1_9) (hr1_10 := g1_10) (hc1_10 := l1_10) (h := h)).mono fun e W' ⟨he, bel0⟩ => ?_
  have bel : Below W.heap.size W W' := bel0
  subst he
  exact ⟨_, rfl, _, _, _, [], _, [], hW', trodAll_mk1 (shut_bool Try.underlying4 _), (trodAll_cons_mk (Below.trod laidOut (by kernel_rfl) (of_decide_eq_true (by kernel_rfl)) kk0 bel lt0) (trodAll_cons_mk (Below.trod laidOut (by kernel_rfl) (of_decide_eq_true (by kernel_rfl)) kk1 bel lt1) trodAll_mk0)), rfl, bel.frame _, fun h => by cases h⟩
/-- The row follows from the plain statement. -/
theorem holds (PU : Pure) : Rows.RecordOneSaid :=
  OpenClaim.holds_of_wide 6 Try.f6 rfl rfl rfl rfl rfl rfl rfl ⟨rfl, rfl, rfl, rfl, rfl⟩ rfl rfl rfl rfl rfl (by kernel_rfl) Try.func6 (by kernel_rfl)
    (of_decide_eq_true (by kernel_rfl)) (by unfold Func.isWrapper; first | (rw [if_pos (by decide +kernel)]; kernel_rfl) | (rw [if_neg (by decide +kernel)]; exact ⟨rfl, rfl⟩))
    (fun os started H enc _ => lifted PU os started H enc)
end Go.Proofs.Ytcfknakmamcinaa.X4b.RowRecordOne
namespace Go.Proofs.Ytcfknakmamcinaa.X4b
open Go Go.RowKit Go.Proofs.YtcfknakmamcinaaW.PrintWords Go.Proofs.Ytcfknakmamcinaa.X4 Go.Proofs.Ytcfknakmamcinaa.Rp Go.Proofs.Ytcfknakmamcinaa.Wr Go.Proofs.Ytcfknakmamcinaa.Pt
set_option linter.unusedVariables false
set_option linter.unusedSimpArgs false
theorem RecordOne : RowRecordOne.Pure := by
  intro x0 x1 h0 h1
  refine ⟨1, ?_⟩
  have go : ∀ b : Bool, (b = false → few x0 ∧ few x1) → careenlaw04_RecordOne.j0 1 b x0.f0 x0.f1 x0.f2 x0.f3 x0.f4 x0.f5 x0.f6 x0.f7 x0.f8 x0.f9 x0.f10 x1.f0 x1.f1 x1.f2 x1.f3 x1.f4 x1.f5 x1.f6 x1.f7 x1.f8 x1.f9 x1.f10 = some true := by
    intro b hbb
    simp only [careenlaw04_RecordOne.j0]
    cases b with
    | true => rw [if_pos rfl, awake_eq]; rfl
    | false =>
      obtain ⟨fw, fv⟩ := hbb rfl
      rw [if_neg (by simp), print_f (by omega), print_f (by omega)]
      simp only [Option.bind_some]
      rcases print_may (r := x0) with ⟨bs, hb, ho, hp, hm⟩ | ⟨hp, hm⟩
      · rcases print_may (r := x1) with ⟨ds, kb, ko, kp, km⟩ | ⟨kp, km⟩
        · rw [hp, kp, if_pos rfl, if_pos rfl, same_f (by omega) (by omega)]
          simp only [Option.bind_some, toList_B]
          congr 1
          rw [beq_iff_eq, Bool.eq_iff_iff, beq_iff_eq, decide_eq_true_eq]
          constructor
          · rintro rfl
            exact rec_inj hb ho kb ko
          · intro e
            rw [← e, hb] at kb
            exact Option.some.inj kb
        · rw [hp, kp, if_pos rfl, if_neg (by decide)]
      · rw [hp, if_neg (by decide)]
  unfold careenlaw04_RecordOne.f
  rw [awake_eq, few_f, few_f]
  simp only [Option.bind_some, if_true]
  by_cases fw : few x0
  · rw [if_pos (by simpa using fw)]
    exact go _ fun h => ⟨fw, by simpa using h⟩
  · rw [if_neg (by simpa using fw)]
    exact go _ fun h => by cases h
theorem recordOne_holds : Rows.RecordOneSaid := RowRecordOne.holds RecordOne
end Go.Proofs.Ytcfknakmamcinaa.X4b
namespace Go.Proofs.Ytcfknakmamcinaa.X4b.RowRecordTold
open Go.Proofs.Ytcfknakmamcinaa.X4 Go.ChangeShapes Go.WideShapes Go.ChangeAt Go.RowKit Go.Proofs.Ytcfknakmamcinaa.Opens Go.Proofs.YtcfknakmamcinaaW.PrintWords
open Go.ChangeMaps (open_string shut_string)
set_option linter.unusedVariables false
theorem own : ownKnob Try.prog.godebug = none := by kernel_rfl
theorem laidOut : laidOutB Try.prog = true := by kernel_rfl
/-- The statement, over plain values. -/
def Pure : Prop := ∀ (x0 : ByteArray) (x1 : Int), x0.size ≤ 140737488351232 → (Lit.int .i64 x1).wf = true → ∃ k : Nat, careenlaw04_RecordTold.f k x0 x1 = some true
set_option maxRecDepth 100000 in
theorem lifted (PU : Pure) (os : Os) (started : os.Started) (H : Type) (enc : TypeId × Value → H) :
    ReturnsInHanded {} Try.checked os 7 .any (Rows.recordToldSpec.pre6 enc Try.prog Try.f7 Rows.recordToldRow.domain false) (Rows.recordToldSpec.post enc Try.prog Try.f7 false true false false) := by
  refine returnsInHanded_of_change_sized (C := Try.checked) own started (by kernel_rfl) Try.func7
    (ChangeSpec.witness6 (enc := enc) (C := Try.checked) false ⟨#[], #[.string ByteArray.empty, .int .i64 0], []⟩ 8 (by kernel_rfl) (by kernel_rfl) (by kernel_rfl) (by kernel_rfl)) ?_
  intro W base args ds gs before hval0 hW hcnd hsz0 _
  have hsz : (DataW.weightsEach Try.prog (Try.f7.params.toList ++ Rows.recordToldSpec.plain.varTypes Try.prog) (ds ++ gs)).all (· ≤ reachBytes) = true := hsz0
  have hval : ∀ (j : Nat) t v, Try.f7.params[j]? = some t → args[j]? = some v → Value.okWide Try.prog W .any base t v := hval0
  have hW' := hW
  obtain ⟨p, q, hA0, hV, rfl, hfz, hnd⟩ := hW
  have hA : DataW.TrodAll enc Try.prog W 0 (fun _ => true) true Try.f7.params.toList args.toList ds p := hA0
  rw [Try.params7] at hA hval hsz
  obtain ⟨v0, vs0, d0, ds0, p0, q0, hargs, rfl, rfl, h0, r0⟩ := trodAll_cons hA
  obtain ⟨v1, vs1, d1, ds1, p1, q1, rfl, rfl, rfl, h1, r1⟩ := trodAll_cons r0
  obtain ⟨rfl, rfl, rfl⟩ := trodAll_nil r1
  obtain rfl : args = #[v0, v1] := by cases args; simp_all
  obtain ⟨rfl, rfl⟩ := trodVars_none hV
  have kk0 := h0
  have lt0 : ∀ x ∈ p0, x.block < W.heap.size := by obtain ⟨m, hm⟩ := kk0; exact DataW.trod_lt m _ _ _ hm
  obtain ⟨x0, hk0, w0⟩ : ∃ x, Kd.string.K W x v0.cells.toList ∧ x.size ≤ 140737488351232 := by
    obtain ⟨fuel, hf⟩ := h0
    exact (opens_string Try.underlying9) hf (fun n hn => by simpa using List.all_eq_true.1 hsz n (DataW.weights_mem_each (j := 0) (t := 9) (d := d0) rfl rfl n hn))
  obtain ⟨z0, rfl⟩ := okWide_string Try.underlying9 (hval 0 9 v0 rfl rfl)
  obtain rfl : z0 = x0 := by
    have e : [Value.string z0] = [Value.string x0] := hk0
    simpa using e
  have kk1 := h1
  have lt1 : ∀ x ∈ p1, x.block < W.heap.size := by obtain ⟨m, hm⟩ := kk1; exact DataW.trod_lt m _ _ _ hm
  obtain ⟨x1, hk1, w1⟩ : ∃ x, (Kd.int .i64).K W x v1.cells.toList ∧ (Lit.int .i64 x).wf = true := by
    obtain ⟨fuel, hf⟩ := h1
    exact (opens_int Try.underlying3) hf (fun n hn => by simpa using List.all_eq_true.1 hsz n (DataW.weights_mem_each (j := 1) (t := 3) (d := d1) rfl rfl n hn))
  obtain ⟨z1, rfl⟩ := okWide_int Try.underlying3 (hval 1 3 v1 rfl rfl)
  obtain rfl : z1 = x1 := by
    have e : [Value.int .i64 z1] = [Value.int .i64 x1] := hk1
    simpa using e
  clear hA0 hval0 hsz0 hsz
  obtain ⟨k, h⟩ := PU z0 z1 w0 w1
  refine (careenlaw04_RecordTold.calls (k := k) (a0 := z0) (a1 := z1) (r := true) (w := W)  (h := h)).mono fun e W' ⟨he, bel0⟩ => ?_
  have bel : Below W.heap.size W W' := bel0
  subst he
  exact ⟨_, rfl, _, _, _, [], _, [], hW', trodAll_mk1 (shut_bool Try.underlying4 _), (trodAll_cons_mk (Below.trod laidOut (by kernel_rfl) (of_decide_eq_true (by kernel_rfl)) kk0 bel lt0) (trodAll_cons_mk (Below.trod laidOut (by kernel_rfl) (of_decide_eq_true (by kernel_rfl)) kk1 bel lt1) trodAll_mk0)), rfl, bel.frame _, fun h => by cases h⟩
/-- The row follows from the plain statement. -/
theorem holds (PU : Pure) : Rows.RecordToldSaid :=
  OpenClaim.holds_of_wide 7 Try.f7 rfl rfl rfl rfl rfl rfl rfl ⟨rfl, rfl, rfl, rfl, rfl⟩ rfl rfl rfl rfl rfl (by kernel_rfl) Try.func7 (by kernel_rfl)
    (of_decide_eq_true (by kernel_rfl)) (by unfold Func.isWrapper; first | (rw [if_pos (by decide +kernel)]; kernel_rfl) | (rw [if_neg (by decide +kernel)]; exact ⟨rfl, rfl⟩))
    (fun os started H enc _ => lifted PU os started H enc)
end Go.Proofs.Ytcfknakmamcinaa.X4b.RowRecordTold
namespace Go.Proofs.Ytcfknakmamcinaa.X4b
open Go Go.RowKit Go.Proofs.YtcfknakmamcinaaW.PrintWords Go.Proofs.Ytcfknakmamcinaa.X4 Go.Proofs.Ytcfknakmamcinaa.Rp Go.Proofs.Ytcfknakmamcinaa.Wr Go.Proofs.Ytcfknakmamcinaa.Pt
set_option linter.unusedVariables false
set_option linter.unusedSimpArgs false
theorem RecordTold : RowRecordTold.Pure := by
  intro x0 x1 h0 h1
  refine ⟨1, ?_⟩
  unfold careenlaw04_RecordTold.f
  rw [awake_eq]
  simp only [Option.bind_some, if_true]
  simp only [careenlaw04_RecordTold.j0]
  by_cases c : (x0.size : Int) > 1000
  · rw [if_pos (by simpa using c), awake_eq]; rfl
  · rw [if_neg (by simpa using c), read_f (by omega)]
    simp only [Option.bind_some]
    by_cases e : (readF x0 x1).2.2 = 0
    · rw [if_pos e]
      obtain ⟨bs, q, p0, hb, ho, ha, hq, hn, hs, hl⟩ := read_some e
      rw [print_f (by have := (may_small hb ho).2.2; omega), print_some hb ho, hn]
      simp only [Option.bind_some, if_true]
      rw [if_pos (by omega), if_pos (by omega), if_pos (by omega), if_pos (by omega), toList_B, toList_bl, ext_list]
      have := ha.2
      rw [Int.toNat_natCast, hq, Nat.add_sub_cancel_left, this]
      simp
    · rw [if_neg e, (read_err e).2]
      rfl
theorem recordTold_holds : Rows.RecordToldSaid := RowRecordTold.holds RecordTold
end Go.Proofs.Ytcfknakmamcinaa.X4b
namespace Go.Proofs.Ytcfknakmamcinaa.X4b.RowRecordLong
open Go.Proofs.Ytcfknakmamcinaa.X4 Go.ChangeShapes Go.WideShapes Go.ChangeAt Go.RowKit Go.Proofs.Ytcfknakmamcinaa.Opens Go.Proofs.YtcfknakmamcinaaW.PrintWords
open Go.ChangeMaps (open_string shut_string)
set_option linter.unusedVariables false
theorem own : ownKnob Try.prog.godebug = none := by kernel_rfl
theorem laidOut : laidOutB Try.prog = true := by kernel_rfl
def W66 (x : S66) : Prop := (Lit.int .i64 x.f0).wf = true ∧ (Lit.int .i64 x.f1).wf = true ∧ (Lit.int .i64 x.f2).wf = true
set_option maxRecDepth 100000 in
theorem opens66 : Opens Try.prog 66 k66 W66 := opens_iso (opens_struct Try.underlying66 (by kernel_rfl) (by kernel_rfl) (opensF_cons (opens_int Try.underlying3) (opensF_cons (opens_int Try.underlying3) (opensF_one (opens_int Try.underlying3))))) (fun x : S66 => (x.f0, x.f1, x.f2)) (fun p => ⟨p.1, p.2.1, p.2.2⟩) (fun _ => rfl)
def W68 (x : S68) : Prop := (Lit.int .i64 x.f0).wf = true ∧ (Lit.int .i64 x.f1).wf = true
set_option maxRecDepth 100000 in
theorem opens68 : Opens Try.prog 68 k68 W68 := opens_iso (opens_struct Try.underlying68 (by kernel_rfl) (by kernel_rfl) (opensF_cons (opens_int Try.underlying3) (opensF_one (opens_int Try.underlying3)))) (fun x : S68 => (x.f0, x.f1)) (fun p => ⟨p.1, p.2⟩) (fun _ => rfl)
def W25 (x : S25) : Prop := (Lit.int .i64 x.f0).wf = true ∧ (Lit.int .i64 x.f1).wf = true ∧ (Lit.int .i64 x.f2).wf = true ∧ (Lit.int .i64 x.f3).wf = true ∧ (Lit.int .i64 x.f4).wf = true ∧ (Lit.int .i64 x.f5).wf = true ∧ (Lit.int .i64 x.f6).wf = true ∧ x.f7.size ≤ 140737488351232 ∧ x.f8.size ≤ 140737488351232 ∧ (x.f9.length ≤ maxLen ∧ x.f9.length * Try.prog.bytesOf 66 ≤ 140737488351232 ∧ ∀ y ∈ x.f9, W66 y) ∧ (x.f10.length ≤ maxLen ∧ x.f10.length * Try.prog.bytesOf 68 ≤ 140737488351232 ∧ ∀ y ∈ x.f10, W68 y)
set_option maxRecDepth 100000 in
theorem opens25 : Opens Try.prog 25 k25 W25 := opens_iso (opens_struct Try.underlying25 (by kernel_rfl) (by kernel_rfl) (opensF_cons (opens_int Try.underlying3) (opensF_cons (opens_int Try.underlying3) (opensF_cons (opens_int Try.underlying3) (opensF_cons (opens_int Try.underlying3) (opensF_cons (opens_int Try.underlying3) (opensF_cons (opens_int Try.underlying3) (opensF_cons (opens_int Try.underlying3) (opensF_cons (opens_string Try.underlying9) (opensF_cons (opens_string Try.underlying9) (opensF_cons (opens_slice Try.underlying22 (by kernel_rfl) opens66) (opensF_one (opens_slice Try.underlying23 (by kernel_rfl) opens68))))))))))))) (fun x : S25 => (x.f0, x.f1, x.f2, x.f3, x.f4, x.f5, x.f6, x.f7, x.f8, x.f9, x.f10)) (fun p => ⟨p.1, p.2.1, p.2.2.1, p.2.2.2.1, p.2.2.2.2.1, p.2.2.2.2.2.1, p.2.2.2.2.2.2.1, p.2.2.2.2.2.2.2.1, p.2.2.2.2.2.2.2.2.1, p.2.2.2.2.2.2.2.2.2.1, p.2.2.2.2.2.2.2.2.2.2⟩) (fun _ => rfl)
/-- The statement, over plain values. -/
def Pure : Prop := ∀ (x0 : S25), W25 x0 → ∃ k : Nat, careenlaw04_RecordLong.f k (x0.f0) (x0.f1) (x0.f2) (x0.f3) (x0.f4) (x0.f5) (x0.f6) (x0.f7) (x0.f8) (x0.f9) (x0.f10) = some true
set_option maxRecDepth 100000 in
theorem lifted (PU : Pure) (os : Os) (started : os.Started) (H : Type) (enc : TypeId × Value → H) :
    ReturnsInHanded {} Try.checked os 8 .any (Rows.recordLongSpec.pre6 enc Try.prog Try.f8 Rows.recordLongRow.domain false) (Rows.recordLongSpec.post enc Try.prog Try.f8 false true false false) := by
  refine returnsInHanded_of_change_sized (C := Try.checked) own started (by kernel_rfl) Try.func8
    (ChangeSpec.witness6 (enc := enc) (C := Try.checked) false ⟨#[], #[.agg #[.int .i64 0, .int .i64 0, .int .i64 0, .int .i64 0, .int .i64 0, .int .i64 0, .int .i64 0, .string ByteArray.empty, .string ByteArray.empty, .slice none 0 0, .slice none 0 0]], []⟩ 8 (by kernel_rfl) (by kernel_rfl) (by kernel_rfl) (by kernel_rfl)) ?_
  intro W base args ds gs before hval0 hW hcnd hsz0 _
  have hsz : (DataW.weightsEach Try.prog (Try.f8.params.toList ++ Rows.recordLongSpec.plain.varTypes Try.prog) (ds ++ gs)).all (· ≤ reachBytes) = true := hsz0
  have hval : ∀ (j : Nat) t v, Try.f8.params[j]? = some t → args[j]? = some v → Value.okWide Try.prog W .any base t v := hval0
  have hW' := hW
  obtain ⟨p, q, hA0, hV, rfl, hfz, hnd⟩ := hW
  have hA : DataW.TrodAll enc Try.prog W 0 (fun _ => true) true Try.f8.params.toList args.toList ds p := hA0
  rw [Try.params8] at hA hval hsz
  obtain ⟨v0, vs0, d0, ds0, p0, q0, hargs, rfl, rfl, h0, r0⟩ := trodAll_cons hA
  obtain ⟨rfl, rfl, rfl⟩ := trodAll_nil r0
  obtain rfl : args = #[v0] := by cases args; simp_all
  obtain ⟨rfl, rfl⟩ := trodVars_none hV
  have kk0 := h0
  have lt0 : ∀ x ∈ p0, x.block < W.heap.size := by obtain ⟨m, hm⟩ := kk0; exact DataW.trod_lt m _ _ _ hm
  obtain ⟨x0, hk0, w0⟩ : ∃ x, k25.K W x v0.cells.toList ∧ W25 x := by
    obtain ⟨fuel, hf⟩ := h0
    exact opens25 hf (fun n hn => by simpa using List.all_eq_true.1 hsz n (DataW.weights_mem_each (j := 0) (t := 25) (d := d0) rfl rfl n hn))
  obtain ⟨cs0, rfl, hsz0⟩ := okWide_struct Try.underlying25 (hval 0 25 v0 rfl rfl)
  obtain ⟨A0_9, c0_9, A0_10, c0_10, e0, l0_9, g0_9, l0_10, g0_10⟩ := k25_open hk0
  obtain rfl : cs0 = #[.int .i64 x0.f0, .int .i64 x0.f1, .int .i64 x0.f2, .int .i64 x0.f3, .int .i64 x0.f4, .int .i64 x0.f5, .int .i64 x0.f6, .string x0.f7, .string x0.f8, .slice A0_9 x0.f9.length c0_9, .slice A0_10 x0.f10.length c0_10] := by apply Array.toList_inj.1; simpa [Value.cells] using e0
  clear hA0 hval0 hsz0 hsz
  obtain ⟨k, h⟩ := PU x0 w0
  refine (careenlaw04_RecordLong.calls (k := k) (a0_0 := x0.f0) (a0_1 := x0.f1) (a0_2 := x0.f2) (a0_3 := x0.f3) (a0_4 := x0.f4) (a0_5 := x0.f5) (a0_6 := x0.f6) (a0_7 := x0.f7) (a0_8 := x0.f8) (l0_9 := x0.f9) (l0_10 := x0.f10) (r := true) (w := W) (hr0_9 := g0_9) (hc0_9 := l0_9) (hr0_10 := g0_10) (hc0_10 := l0_10) (h := h)).mono fun e W' ⟨he, bel0⟩ => ?_
  have bel : Below W.heap.size W W' := bel0
  subst he
  exact ⟨_, rfl, _, _, _, [], _, [], hW', trodAll_mk1 (shut_bool Try.underlying4 _), (trodAll_cons_mk (Below.trod laidOut (by kernel_rfl) (of_decide_eq_true (by kernel_rfl)) kk0 bel lt0) trodAll_mk0), rfl, bel.frame _, fun h => by cases h⟩
/-- The row follows from the plain statement. -/
theorem holds (PU : Pure) : Rows.RecordLongSaid :=
  OpenClaim.holds_of_wide 8 Try.f8 rfl rfl rfl rfl rfl rfl rfl ⟨rfl, rfl, rfl, rfl, rfl⟩ rfl rfl rfl rfl rfl (by kernel_rfl) Try.func8 (by kernel_rfl)
    (of_decide_eq_true (by kernel_rfl)) (by unfold Func.isWrapper; first | (rw [if_pos (by decide +kernel)]; kernel_rfl) | (rw [if_neg (by decide +kernel)]; exact ⟨rfl, rfl⟩))
    (fun os started H enc _ => lifted PU os started H enc)
end Go.Proofs.Ytcfknakmamcinaa.X4b.RowRecordLong
namespace Go.Proofs.Ytcfknakmamcinaa.X4b
open Go Go.RowKit Go.Proofs.YtcfknakmamcinaaW.PrintWords Go.Proofs.Ytcfknakmamcinaa.X4 Go.Proofs.Ytcfknakmamcinaa.Rp Go.Proofs.Ytcfknakmamcinaa.Wr Go.Proofs.Ytcfknakmamcinaa.Pt
set_option linter.unusedVariables false
set_option linter.unusedSimpArgs false
theorem RecordLong : RowRecordLong.Pure := by
  intro x0 h0
  refine ⟨1, ?_⟩
  unfold careenlaw04_RecordLong.f
  rw [awake_eq, few_f]
  simp only [Option.bind_some, if_true]
  simp only [careenlaw04_RecordLong.j0]
  by_cases fw : few x0
  · rw [if_neg (by simp [fw]), print_f (by omega)]
    simp only [Option.bind_some]
    rcases print_may (r := x0) with ⟨bs, hb, ho, hp, hm⟩ | ⟨hp, hm⟩
    · rw [hp, if_pos rfl]
      obtain ⟨l1, l2, l3⟩ := rec_len hb
      obtain ⟨k0, k6, b, hbb, -⟩ := rec_cut hb
      simp only [List.length_cons, List.length_nil, B_size]
      rw [if_pos k0, if_pos (by omega)]
      have wi : ∀ a : Int, 0 ≤ a → a ≤ 1000000 → wrap64 a = a := fun a h h2 => by unfold wrap64; omega
      rw [wi (2 * (x0.f8.size : Int)) (by omega) (by omega), wi (12 + 2 * (x0.f8.size : Int)) (by omega) (by omega), wi (16 + (x0.f8.size : Int)) (by omega) (by omega), wi (12 * (x0.f9.length : Int)) (by omega) (by omega), wi (7 + 12 * (x0.f9.length : Int)) (by omega) (by omega), wi (5 * (x0.f10.length : Int)) (by omega) (by omega), wi (7 + 12 * (x0.f9.length : Int) + 5 * (x0.f10.length : Int)) (by omega) (by omega)]
      congr 1
      rw [beq_iff_eq, l1]
      unfold rd
      by_cases e1 : x0.f0 = 1
      · rw [if_pos e1, e1]; simp
      rw [if_neg e1]
      by_cases e2 : x0.f0 = 2
      · rw [if_pos e2, e2]; simp
      rw [if_neg e2]
      by_cases e3 : x0.f0 = 3 ∨ x0.f0 = 4
      · rw [if_pos e3]
        rcases e3 with e3 | e3 <;> rw [e3] <;> simp
      rw [if_neg e3]
      by_cases e5 : x0.f0 = 5
      · rw [if_pos e5, e5]; simp
      rw [if_neg e5]
      have e6 : x0.f0 = 6 := by
        unfold bodyP at hbb
        rw [if_neg e1, if_neg e2, if_neg e3, if_neg e5] at hbb
        by_cases e6 : x0.f0 = 6
        · exact e6
        · rw [if_neg e6] at hbb; cases hbb
      rw [e6]
      simp
    · rw [hp, if_neg (by decide), toList_nil]
      rfl
  · rw [if_pos (by simp [fw]), awake_eq]
    rfl
theorem recordLong_holds : Rows.RecordLongSaid := RowRecordLong.holds RecordLong
end Go.Proofs.Ytcfknakmamcinaa.X4b
