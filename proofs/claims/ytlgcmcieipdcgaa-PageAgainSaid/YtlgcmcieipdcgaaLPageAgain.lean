/- For every list of records, first place and place to begin anew, the law PageAgain returns true: records that rise, applied once more from any of them on, leave the page as it was. No condition. -/
import Derived.Test.YtlgcmcieipdcgaaPure6
import Derived.Test.YtlgcmcieipdcgaaX6RowPageAgain
import Derived.Test.YtlgcmcieipdcgaaRefApply
namespace Go.Proofs.Ytlgcmcieipdcgaa.X6
open Go Go.RowKit Go.Proofs.YtlgcmcieipdcgaaW.PrintWords Go.Proofs.Ytlgcmcieipdcgaa.Page Go.Proofs.Ytlgcmcieipdcgaa.Arr
set_option linter.unusedVariables false
/-- One record, at its place. -/
def step (first : Int) (l : List S40) (i : Nat) (p : Int × ByteArray) : Int × ByteArray :=
  applyF p.1 p.2 (first + i) (l.getD i z40).f0 (l.getD i z40).f3 (l.getD i z40).f8
theorem put_at (p0 : Int) (p1 : ByteArray) (off : Int) (s : ByteArray) (a : Int) (h : (putF p0 p1 off s a).2.2 = 0) : (putF p0 p1 off s a).1 = a := by
  unfold putF at *
  split at h
  · split at h
    · split at h
      · simp_all
      · cases h
    · cases h
  · cases h
theorem step_or (first : Int) (l : List S40) (i : Nat) (p : Int × ByteArray) : step first l i p = p ∨ (step first l i p).1 = first + i := by
  unfold step applyF
  split
  · rename_i h; exact .inr (put_at _ _ _ _ _ h.2.2)
  · exact .inl rfl
theorem step_low (first : Int) (l : List S40) (i : Nat) (p : Int × ByteArray) (h : first + i ≤ p.1) : step first l i p = p := by
  unfold step applyF
  rw [if_neg (by omega)]
/-- What was done needs nothing more. -/
theorem keep (first : Int) (l : List S40) (i : Nat) (p : Int × ByteArray) (h : ∀ j, j < i → step first l j p = p) : ∀ j, j < i + 1 → step first l j (step first l i p) = step first l i p := by
  intro j hj
  rcases step_or first l i p with e | e
  · rw [e]
    by_cases hji : j = i
    · rw [hji]; exact e
    · exact h j (by omega)
  · exact step_low first l j _ (by rw [e]; omega)
theorem again_l1 (l : List S40) (first : Int) (hf : 1 ≤ first ∧ first ≤ 1000) (hl : l.length ≤ 60) (hw : ∀ x ∈ l, x.f8.size ≤ 140737488351232) (p : Int × ByteArray) (hk : ∀ j, j < l.length → step first l j p = p) :
    ∀ (d k i : Nat), i + d = l.length → d < k → careenlaw06_PageAgain.l1 (k + 1) l first (i : Int) p.1 p.2 p.1 p.2 = some true := by
  intro d
  induction d with
  | zero =>
    intro k i hi hk'
    simp only [careenlaw06_PageAgain.l1]
    rw [if_neg (by omega)]
    simp
  | succ d ih =>
    intro k i hi hk'
    obtain ⟨k, rfl⟩ : ∃ m, k = m + 1 := ⟨k - 1, by omega⟩
    simp only [careenlaw06_PageAgain.l1]
    have hx : (rd_T40 l (i : Int)) = l.getD i z40 := by simp [rd_T40]
    have h8 : (l.getD i z40).f8.size ≤ 140737488351232 := by
      rw [List.getD_eq_getElem?_getD, List.getElem?_eq_getElem (by omega)]; exact hw _ (List.getElem_mem _)
    have hs : applyF p.1 p.2 (first + i) (l.getD i z40).f0 (l.getD i z40).f3 (l.getD i z40).f8 = p := hk i (by omega)
    rw [if_pos (by omega), if_pos (by omega), hx, apply_eq k _ _ _ _ _ _ _ _ _ _ _ _ _ _ h8, w64 (x := first + i) (by omega) (by omega), hs, w64 (by omega) (by omega)]
    simp only [Option.bind_some]
    exact ih k (i + 1) (by omega) (by omega)
theorem again_l0 (l : List S40) (first : Int) (from_ : Int) (hf : 1 ≤ first ∧ first ≤ 1000) (hl : l.length ≤ 60) (hw : ∀ x ∈ l, x.f8.size ≤ 140737488351232) :
    ∀ (d k i : Nat) (p : Int × ByteArray), i + d = l.length → d + l.length + 2 < k → (∀ j, j < i → step first l j p = p) → careenlaw06_PageAgain.l0 (k + 1) l first from_ l (l.length : Int) (i : Int) p.1 p.2 = some true := by
  intro d
  induction d with
  | zero =>
    intro k i p hi hk' hk
    simp only [careenlaw06_PageAgain.l0]
    rw [if_neg (by omega)]
    have e1 : IntKind.u64.wrap (wrap64 ((l.length : Int) + 1)) = (l.length : Int) + 1 := by rw [w64 (by omega) (by omega), u64_in (by omega) (by omega)]
    rw [e1, if_neg (by omega)]
    obtain ⟨m, hm, hml⟩ := umod from_ ((l.length : Int) + 1) (by omega) (by omega)
    rw [hm]
    obtain ⟨k, rfl⟩ : ∃ q, k = q + 1 := ⟨k - 1, by omega⟩
    exact again_l1 l first hf hl hw p (fun j hj => hk j (by omega)) (l.length - m) k m (by omega) (by omega)
  | succ d ih =>
    intro k i p hi hk' hk
    obtain ⟨k, rfl⟩ : ∃ m, k = m + 1 := ⟨k - 1, by omega⟩
    simp only [careenlaw06_PageAgain.l0]
    have hx : (rd_T40 l (i : Int)) = l.getD i z40 := by simp [rd_T40]
    have h8 : (l.getD i z40).f8.size ≤ 140737488351232 := by
      rw [List.getD_eq_getElem?_getD, List.getElem?_eq_getElem (by omega)]; exact hw _ (List.getElem_mem _)
    rw [if_pos (by omega), if_pos (by omega), if_pos (by omega), hx, few_eq]
    simp only [Option.bind_some]
    split
    · rw [apply_eq k _ _ _ _ _ _ _ _ _ _ _ _ _ _ h8, w64 (x := first + i) (by omega) (by omega), w64 (by omega) (by omega)]
      simp only [Option.bind_some]
      exact ih k (i + 1) _ (by omega) (by omega) (keep first l i p hk)
    · rfl
theorem PageAgain : RowPageAgain.Pure := by
  intro l x1 x2 h0 h1 h2
  refine ⟨l.length + l.length + 10, ?_⟩
  unfold careenlaw06_PageAgain.f
  rw [awake_eq _ (by omega)]
  simp only [Option.bind_some, if_true]
  have hw : ∀ x ∈ l, x.f8.size ≤ 140737488351232 := fun x hx => (h0.2.2 x hx).2.2.2.2.2.2.2.2.1
  obtain ⟨m, hm, hml⟩ := umod x1 1000 (by omega) (by omega)
  simp only [careenlaw06_PageAgain.j0]
  split
  · rw [awake_eq _ (by omega)]; rfl
  · rename_i hl
    simp only [decide_eq_true_eq] at hl
    rw [empty_eq]
    simp only [Option.bind_some]
    have e : wrap64 (1 + wrap64 (Int.tmod (IntKind.u64.wrap x1) 1000)) = 1 + (m : Int) := by rw [hm, w64 (by omega) (by omega)]
    rw [e]
    exact again_l0 l (1 + m) x2 (by omega) (by omega) hw l.length (l.length + l.length + 8) 0 (0, noughts 220) (by omega) (by omega) (fun j hj => absurd hj (by omega))
theorem pageAgain_holds : Rows.PageAgainSaid := RowPageAgain.holds PageAgain
end Go.Proofs.Ytlgcmcieipdcgaa.X6
