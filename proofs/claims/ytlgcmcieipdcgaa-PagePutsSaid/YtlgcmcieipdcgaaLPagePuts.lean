/- For every page, place, number and bytes, the law PagePuts returns true: page.Put, page.Get, page.Right and page.Empty give what the document's functions give. No condition. -/
import Derived.Test.YtlgcmcieipdcgaaPure6
import Derived.Test.YtlgcmcieipdcgaaX6RowPagePuts
namespace Go.Proofs.Ytlgcmcieipdcgaa.X6
open Go Go.RowKit Go.Proofs.YtlgcmcieipdcgaaW.PrintWords Go.Proofs.Ytlgcmcieipdcgaa.Page Go.Proofs.Ytlgcmcieipdcgaa.Arr
set_option linter.unusedVariables false
theorem puts_j (p0 : Int) (p1 : ByteArray) (off n at_ : Int) (s : ByteArray) (x : Bool) (hs : s.size ≤ 140737488351232) (ho : (Lit.int .i64 off).wf = true) (hn : (Lit.int .i64 n).wf = true) : careenlaw06_PagePuts.j0 3 off n at_ s x p0 p1 = some true := by
  simp only [careenlaw06_PagePuts.j0]
  cases x with
  | true => rw [if_pos rfl, awake_eq 2 (by omega)]; rfl
  | false =>
    rw [if_neg (by simp), put_eq _ _ _ _ _ hs, refput_eq _ _ _ _ _ hs, get_eq _ _ _ _ (wf64 ho) (wf64 hn), refget_eq _ _ _ _ (wf64 ho) (wf64 hn), right_eq, refright_eq, empty_eq, empty_ref]
    simp
theorem PagePuts : RowPagePuts.Pure := by
  intro x0 x1 x2 x3 x4 h0 h1 h2 h3 h4
  refine ⟨3, ?_⟩
  unfold careenlaw06_PagePuts.f
  rw [awake_eq 3 (by omega)]
  simp only [Option.bind_some, if_true]
  split <;> exact puts_j _ _ _ _ _ _ _ h4 h1 h2
theorem pagePuts_holds : Rows.PagePutsSaid := RowPagePuts.holds PagePuts
end Go.Proofs.Ytlgcmcieipdcgaa.X6
