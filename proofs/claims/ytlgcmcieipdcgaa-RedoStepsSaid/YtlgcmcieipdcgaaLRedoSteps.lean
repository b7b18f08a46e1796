/- For every list of entries, cut and list of pages, the law RedoSteps returns true: redo up to a record and from it on is redo at once. No condition. -/
import Derived.Test.YtlgcmcieipdcgaaPure14
import Derived.Test.YtlgcmcieipdcgaaX14RowRedoSteps
namespace Go.Proofs.Ytlgcmcieipdcgaa.X14
open Go Go.RowKit Go.Proofs.YtlgcmcieipdcgaaW.PrintWords Go.Proofs.Ytlgcmcieipdcgaa.Page
set_option linter.unusedVariables false
theorem steps_l0 (l : List S58) (ps a : List S23) (from_ : Int) (hw : ∀ x ∈ l, x.f1.f8.size ≤ 140737488351232) (hl : l.length < 9223372036854775807) (hp : ps.length * 24 ≤ 140737488351232) (ha : a = pagesF from_ l ps) :
    ∀ (d i : Nat), i + d = l.length → Ev (fun k => careenlaw14_RedoSteps.l0 k l ps from_ a l (l.length : Int) (i : Int)) true := by
  intro d
  induction d with
  | zero =>
    intro i hi
    refine Ev.step (f := fun k => (redo_Pages.f k l from_ ps).bind fun t => (careenref14_Same.f k a t).bind fun u => some u) ?_ ?_
    · intro k
      simp only [careenlaw14_RedoSteps.l0]
      rw [if_neg (by omega)]
    · have L := pagesF_len from_ l ps
      refine Ev.bind (pages_ev l from_ ps hw hl (by omega)) ?_
      refine Ev.bind (refsame_ev _ _ (by rw [ha]; omega)) ?_
      rw [ha, sameB_refl]
      exact Ev.now true
  | succ d ih =>
    intro i hi
    refine Ev.step (f := fun k => if (rd_T58 l (i : Int)).f0 < from_ then some true else careenlaw14_RedoSteps.l0 k l ps from_ a l (l.length : Int) ((i + 1 : Nat) : Int)) ?_ ?_
    · intro k
      simp only [careenlaw14_RedoSteps.l0]
      rw [if_pos (by omega), if_pos (by omega), if_pos (by omega), w64 (by omega) (by omega)]
      rfl
    · by_cases h : (rd_T58 l (i : Int)).f0 < from_
      · simp only [h, if_true]; exact Ev.now true
      · simp only [h, if_false]; exact ih (i + 1) (by omega)
theorem steps_j (l : List S58) (cut : Int) (ps : List S23) (x : Bool) (hw : ∀ x ∈ l, x.f1.f8.size ≤ 140737488351232) (hl : l.length < 9223372036854775800) (hp : ps.length * 24 ≤ 140737488351232) : Ev (fun k => careenlaw14_RedoSteps.j0 k l cut ps x) true := by
  cases x with
  | true =>
    refine ⟨1, fun k hk => ?_⟩
    obtain ⟨k, rfl⟩ : ∃ m, k = m + 1 := ⟨k - 1, by omega⟩
    rfl
  | false =>
    have e1 : IntKind.u64.wrap (wrap64 ((l.length : Int) + 1)) = (l.length : Int) + 1 := by rw [w64 (by omega) (by omega), u64_in (by omega) (by omega)]
    obtain ⟨m, hm, hml⟩ := umod cut ((l.length : Int) + 1) (by omega) (by omega)
    refine Ev.step (f := fun k => (redo_Pages.f k (l.take m) (-4611686018427387904) ps).bind fun t => (redo_Pages.f k (l.drop m) (-4611686018427387904) t).bind fun u => careenlaw14_RedoSteps.l0 k l ps (-4611686018427387904) u l (l.length : Int) 0) ?_ ?_
    · intro k
      simp only [careenlaw14_RedoSteps.j0]
      rw [if_neg (by simp), e1, hm, if_neg (by omega), if_pos (by omega), if_pos (by omega)]
      simp only [Int.toNat_natCast]
    · have L := pagesF_len (-4611686018427387904) (l.take m) ps
      refine Ev.bind (pages_ev (l.take m) _ ps (fun x hx => hw x (List.mem_of_mem_take hx)) (by rw [List.length_take]; omega) (by omega)) ?_
      refine Ev.bind (pages_ev (l.drop m) _ _ (fun x hx => hw x (List.mem_of_mem_drop hx)) (by rw [List.length_drop]; omega) (by omega)) ?_
      have e : pagesF (-4611686018427387904) (l.drop m) (pagesF (-4611686018427387904) (l.take m) ps) = pagesF (-4611686018427387904) l ps := by
        unfold pagesF; rw [← List.foldl_append, List.take_append_drop]
      exact steps_l0 l ps _ _ hw (by omega) hp e l.length 0 (by omega)
theorem RedoSteps : RowRedoSteps.Pure := by
  intro l cut ps h0 h1 h2
  apply Ev.rounds
  have hl : l.length < 9223372036854775800 := by
    have := h0.2.1
    have e : Try.prog.bytesOf 58 = 144 := by kernel_rfl
    rw [e] at this; omega
  have hp : ps.length * 24 ≤ 140737488351232 := by
    have := h2.2.1
    have e : Try.prog.bytesOf 23 = 24 := by kernel_rfl
    rwa [e] at this
  have hw : ∀ x ∈ l, x.f1.f8.size ≤ 140737488351232 := fun x hx => (h0.2.2 x hx).2.2.2.2.2.2.2.2.2.1
  obtain ⟨b, hb⟩ := few_ev l (by omega)
  obtain ⟨c, hc⟩ := fewp_ev ps (by omega)
  unfold careenlaw14_RedoSteps.f careenlaw14_awake.f
  simp only [Option.bind_some, if_true]
  refine Ev.bind hb ?_
  cases b with
  | true =>
    simp only [if_true]
    refine Ev.bind hc ?_
    exact steps_j l cut ps _ hw hl hp
  | false => exact steps_j l cut ps _ hw hl hp
theorem redoSteps_holds : Rows.RedoStepsSaid := RowRedoSteps.holds RedoSteps
end Go.Proofs.Ytlgcmcieipdcgaa.X14
