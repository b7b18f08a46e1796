/- For every list of entries, place, list of pages and number, the law RedoDoes returns true: redo.Pages, redo.One and redo.Same give what the document's functions give. No condition. -/
import Derived.Test.YtlgcmcieipdcgaaPure14
import Derived.Test.YtlgcmcieipdcgaaX14RowRedoDoes
namespace Go.Proofs.Ytlgcmcieipdcgaa.X14
open Go Go.RowKit Go.Proofs.YtlgcmcieipdcgaaW.PrintWords Go.Proofs.Ytlgcmcieipdcgaa.Page
set_option linter.unusedVariables false
theorem does_j (l : List S58) (from_ : Int) (ps : List S23) (n : Int) (x : Bool) (hw : ∀ x ∈ l, x.f1.f8.size ≤ 140737488351232) (hl : l.length < 9223372036854775807) (hp : ps.length * 24 ≤ 140737488351232) : Ev (fun k => careenlaw14_RedoDoes.j0 k l from_ ps n x) true := by
  cases x with
  | true =>
    refine ⟨1, fun k hk => ?_⟩
    obtain ⟨k, rfl⟩ : ∃ m, k = m + 1 := ⟨k - 1, by omega⟩
    rfl
  | false =>
    refine Ev.step (f := fun k => (redo_Pages.f k l from_ ps).bind fun t => (careenref14_Pages.f k l from_ ps).bind fun u => (careenref14_Same.f k t u).bind fun v => if v = true then (redo_One.f k l n).bind fun a => (careenref14_One.f k l n).bind fun b => if (a.1 == b.1 && (a.2.toList == b.2.toList)) = true then (redo_Same.f k t ps).bind fun c => (careenref14_Same.f k t ps).bind fun d => some (c == d) else some false else some false) ?_ ?_
    · intro k
      simp only [careenlaw14_RedoDoes.j0]
      rw [if_neg (by simp)]
      simp only [Option.bind_some, List.nil_append, List.length_nil, Nat.zero_add]
      rw [if_pos (by omega)]
    · have L := pagesF_len from_ l ps
      refine Ev.bind (pages_ev l from_ ps hw hl (by omega)) ?_
      refine Ev.bind (refpages_ev l from_ ps hw (by omega) (by omega)) ?_
      refine Ev.bind (refsame_ev _ _ (by omega)) ?_
      rw [sameB_refl]
      simp only [if_true]
      refine Ev.bind (one_ev l n hw (by omega)) ?_
      refine Ev.bind (refone_ev l n hw (by omega)) ?_
      simp only [beq_self_eq_true, Bool.and_self, if_true]
      refine Ev.bind (same_ev _ _ (by omega)) ?_
      refine Ev.bind (refsame_ev _ _ (by omega)) ?_
      simp only [beq_self_eq_true]
      exact Ev.now true
theorem RedoDoes : RowRedoDoes.Pure := by
  intro l from_ ps n h0 h1 h2 h3
  apply Ev.rounds
  have hl : l.length < 9223372036854775807 := by
    have := h0.2.1
    have e : Try.prog.bytesOf 58 = 144 := by kernel_rfl
    rw [e] at this; omega
  have hp : ps.length * 24 ≤ 140737488351232 := by
    have := h2.2.1
    have e : Try.prog.bytesOf 23 = 24 := by kernel_rfl
    rwa [e] at this
  have hw : ∀ x ∈ l, x.f1.f8.size ≤ 140737488351232 := fun x hx => (h0.2.2 x hx).2.2.2.2.2.2.2.2.2.1
  obtain ⟨b, hb⟩ := few_ev l (by omega)
  obtain ⟨c, hc⟩ := fewp_ev ps (by omega)
  unfold careenlaw14_RedoDoes.f careenlaw14_awake.f
  simp only [Option.bind_some, if_true]
  refine Ev.bind hb ?_
  cases b with
  | true =>
    simp only [if_true]
    refine Ev.bind hc ?_
    exact does_j l from_ ps n _ hw hl hp
  | false => exact does_j l from_ ps n _ hw hl hp
theorem redoDoes_holds : Rows.RedoDoesSaid := RowRedoDoes.holds RedoDoes
end Go.Proofs.Ytlgcmcieipdcgaa.X14
