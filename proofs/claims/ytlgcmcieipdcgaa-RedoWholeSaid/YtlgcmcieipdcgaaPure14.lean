import Derived.Test.YtlgcmcieipdcgaaX14x2
import Derived.Test.YtlgcmcieipdcgaaX14x3
import Derived.Test.YtlgcmcieipdcgaaX14x4
import Derived.Test.YtlgcmcieipdcgaaX14x5
import Derived.Test.YtlgcmcieipdcgaaX14x6
/-! The plain laws of layer 14. -/
namespace Go.Proofs.Ytlgcmcieipdcgaa.X14
open Go Go.RowKit Go.Proofs.YtlgcmcieipdcgaaW.PrintWords Go.Proofs.Ytlgcmcieipdcgaa.Page
set_option linter.unusedVariables false
theorem wf64 {x : Int} (h : (Lit.int .i64 x).wf = true) : -9223372036854775808 ≤ x ∧ x ≤ 9223372036854775807 := by
  simp only [Lit.wf, Bool.and_eq_true, decide_eq_true_eq] at h
  exact h
theorem w64 {x : Int} (h0 : -9223372036854775808 ≤ x) (h1 : x ≤ 9223372036854775807) : wrap64 x = x := by unfold wrap64; omega
theorem u64_range (x : Int) : 0 ≤ IntKind.u64.wrap x ∧ IntKind.u64.wrap x < 18446744073709551616 := by rw [IntKind.wrap_u64]; omega
theorem u64_in {x : Int} (h0 : 0 ≤ x) (h1 : x < 18446744073709551616) : IntKind.u64.wrap x = x := by rw [IntKind.wrap_u64]; omega
/-- 'int(uint(x) % n)'. -/
theorem umod (x n : Int) (h0 : 0 < n) (h1 : n ≤ 9223372036854775807) : ∃ m : Nat, wrap64 (Int.tmod (IntKind.u64.wrap x) n) = (m : Int) ∧ (m : Int) < n := by
  have h := u64_range x
  have e : Int.tmod (IntKind.u64.wrap x) n = IntKind.u64.wrap x % n := Int.tmod_eq_emod_of_nonneg h.1
  have a := Int.emod_nonneg (IntKind.u64.wrap x) (show n ≠ 0 by omega)
  have b := Int.emod_lt_of_pos (IntKind.u64.wrap x) h0
  refine ⟨(IntKind.u64.wrap x % n).toNat, ?_, by omega⟩
  rw [e, w64 (by omega) (by omega)]; omega
theorem right_eq (a : Int) (b : ByteArray) : page_Right.f a b = some (decide (0 ≤ a ∧ a ≤ 2147483647 ∧ b.size = 220)) := by
  unfold page_Right.f
  by_cases h0 : a ≥ 0
  · by_cases h1 : a ≤ 2147483647
    · rw [if_pos h0, if_pos h1]
      congr 1
      rw [Bool.eq_iff_iff]; simp only [beq_iff_eq, decide_eq_true_eq]; omega
    · rw [if_pos h0, if_neg h1]; congr 1; symm; simp; omega
  · rw [if_neg h0]; congr 1; symm; simp; omega
theorem refright_eq (a : Int) (b : ByteArray) : careenref06_Right.f a b = some (decide (0 ≤ a ∧ a ≤ 2147483647 ∧ b.size = 220)) := right_eq a b
theorem put_eq (p0 : Int) (p1 : ByteArray) (off : Int) (s : ByteArray) (at_ : Int) (hs : s.size ≤ 140737488351232) : page_Put.f p0 p1 off s at_ = some (putF p0 p1 off s at_) := if_pos hs
theorem refput_eq (p0 : Int) (p1 : ByteArray) (off : Int) (s : ByteArray) (at_ : Int) (hs : s.size ≤ 140737488351232) : careenref06_Put.f p0 p1 off s at_ = some (putF p0 p1 off s at_) := if_pos hs
/-- What a record does to a page: its kind, its place on the page, its bytes. -/
def applyF (p0 : Int) (p1 : ByteArray) (at_ : Int) (kind off : Int) (after : ByteArray) : Int × ByteArray :=
  if (kind = 1 ∨ kind = 2) ∧ p0 < at_ ∧ (putF p0 p1 off after at_).2.2 = 0 then ((putF p0 p1 off after at_).1, (putF p0 p1 off after at_).2.1) else (p0, p1)
theorem apply_eq (k : Nat) (p0 : Int) (p1 : ByteArray) (at_ : Int) (a0 a1 a2 a3 a4 a5 a6 : Int) (a7 a8 : ByteArray) (l9 : List S100) (l10 : List S102) (h8 : a8.size ≤ 140737488351232) :
    page_Apply.f (k + 1) p0 p1 at_ a0 a1 a2 a3 a4 a5 a6 a7 a8 l9 l10 = some (applyF p0 p1 at_ a0 a3 a8) := by
  have go : ∀ x : Bool, page_Apply.j0 (k + 1) at_ x p0 p1 a0 a1 a2 a3 a4 a5 a6 a7 a8 l9 l10 = some (if x = false ∧ (putF p0 p1 a3 a8 at_).2.2 = 0 then ((putF p0 p1 a3 a8 at_).1, (putF p0 p1 a3 a8 at_).2.1) else (p0, p1)) := by
    intro x
    simp only [page_Apply.j0]
    cases x with
    | true => simp
    | false =>
      rw [if_neg (by simp), put_eq _ _ _ _ _ h8]
      simp only [Option.bind_some]
      by_cases h : (putF p0 p1 a3 a8 at_).2.2 = 0 <;> simp [h]
  unfold page_Apply.f applyF
  by_cases h1 : a0 = 1
  · rw [if_pos h1, go]; congr 1; by_cases h : p0 < at_ <;> simp [h1, h]
  · rw [if_neg h1]
    by_cases h2 : a0 = 2
    · rw [if_pos h2, go]; congr 1; by_cases h : p0 < at_ <;> simp [h2, h]
    · rw [if_neg h2, go]; simp [h1, h2]
theorem empty_eq : page_Empty.f = some (0, Arr.noughts 220) := rfl
theorem empty_ref : careenref06_Empty.f = some (0, Arr.noughts 220) := by decide +kernel
theorem refapply_eq (k : Nat) (p0 : Int) (p1 : ByteArray) (at_ : Int) (a0 a1 a2 a3 a4 a5 a6 : Int) (a7 a8 : ByteArray) (l9 : List S100) (l10 : List S102) (h8 : a8.size ≤ 140737488351232) :
    careenref06_Apply.f (k + 1) p0 p1 at_ a0 a1 a2 a3 a4 a5 a6 a7 a8 l9 l10 = some (applyF p0 p1 at_ a0 a3 a8) := by
  have go : ∀ x : Bool, careenref06_Apply.j0 (k + 1) at_ x p0 p1 a0 a1 a2 a3 a4 a5 a6 a7 a8 l9 l10 = some (if x = false ∧ (putF p0 p1 a3 a8 at_).2.2 = 0 then ((putF p0 p1 a3 a8 at_).1, (putF p0 p1 a3 a8 at_).2.1) else (p0, p1)) := by
    intro x
    simp only [careenref06_Apply.j0]
    cases x with
    | true => simp
    | false =>
      rw [if_neg (by simp), refput_eq _ _ _ _ _ h8]
      simp only [Option.bind_some]
      by_cases h : (putF p0 p1 a3 a8 at_).2.2 = 0 <;> simp [h]
  unfold careenref06_Apply.f applyF
  rw [refright_eq]
  simp only [Option.bind_some]
  by_cases hp : 0 ≤ p0 ∧ p0 ≤ 2147483647 ∧ p1.size = 220
  · rw [if_pos (by simpa using hp)]
    by_cases h1 : a0 = 1
    · rw [if_pos h1, go]; congr 1; by_cases h : p0 < at_ <;> simp [h1, h]
    · rw [if_neg h1]
      by_cases h2 : a0 = 2
      · rw [if_pos h2, go]; congr 1; by_cases h : p0 < at_ <;> simp [h2, h]
      · rw [if_neg h2, go]; simp [h1, h2]
  · have e : (putF p0 p1 a3 a8 at_).2.2 = 3 := by unfold putF; rw [if_neg hp]
    rw [if_neg (by simpa using hp), go]
    simp [e]
theorem few_eq (a0 a1 a2 a3 a4 a5 a6 : Int) (a7 a8 : ByteArray) (l9 : List S100) (l10 : List S102) :
    careenref04_Few.f a0 a1 a2 a3 a4 a5 a6 a7 a8 l9 l10 = some (decide (a7.size ≤ 300 ∧ a8.size ≤ 300 ∧ l9.length ≤ 50 ∧ l10.length ≤ 50)) := by
  unfold careenref04_Few.f
  by_cases h1 : (a7.size : Int) ≤ 300
  · by_cases h2 : (a8.size : Int) ≤ 300
    · by_cases h3 : (l9.length : Int) ≤ 50
      · rw [if_pos h1, if_pos h2, if_pos h3]; congr 1; rw [Bool.eq_iff_iff]; simp only [decide_eq_true_eq]; omega
      · rw [if_pos h1, if_pos h2, if_neg h3]; congr 1; symm; simp; omega
    · rw [if_pos h1, if_neg h2]; congr 1; symm; simp; omega
  · rw [if_neg h1]; congr 1; symm; simp; omega

/-- Few of entries, of pages: whatever it says, it says it. -/
theorem few_l0 (l : List S58) (hl : l.length ≤ 9223372036854775807) : ∀ (d k i : Nat), i + d = l.length → d < k → ∃ b, careenref11_Few.l0 k l (i : Int) = some b := by
  intro d
  induction d with
  | zero =>
    intro k i hi hk
    obtain ⟨k, rfl⟩ : ∃ m, k = m + 1 := ⟨k - 1, by omega⟩
    simp only [careenref11_Few.l0]
    rw [if_neg (by omega)]; exact ⟨_, rfl⟩
  | succ d ih =>
    intro k i hi hk
    obtain ⟨k, rfl⟩ : ∃ m, k = m + 1 := ⟨k - 1, by omega⟩
    simp only [careenref11_Few.l0]
    rw [if_pos (by omega), if_pos (by omega), few_eq, w64 (by omega) (by omega)]
    simp only [Option.bind_some]
    split
    · exact ih k (i + 1) (by omega) (by omega)
    · exact ⟨_, rfl⟩
theorem few_ev (l : List S58) (hl : l.length ≤ 9223372036854775807) : ∃ b, Ev (fun k => careenref11_Few.f k l) b := by
  obtain ⟨b, hb⟩ := few_l0 l hl l.length (l.length + 1) 0 (by omega) (by omega)
  exact ⟨b, Ev.of (g := fun k => careenref11_Few.f k l) (careenref11_Few.mono l) (k := l.length + 1) hb⟩
theorem fewp_l0 (l : List S23) (hl : l.length ≤ 9223372036854775807) : ∀ (d k i : Nat), i + d = l.length → d < k → ∃ b, careenlaw14_few.l0 k l l (l.length : Int) (i : Int) = some b := by
  intro d
  induction d with
  | zero =>
    intro k i hi hk
    obtain ⟨k, rfl⟩ : ∃ m, k = m + 1 := ⟨k - 1, by omega⟩
    simp only [careenlaw14_few.l0]
    rw [if_neg (by omega)]; exact ⟨_, rfl⟩
  | succ d ih =>
    intro k i hi hk
    obtain ⟨k, rfl⟩ : ∃ m, k = m + 1 := ⟨k - 1, by omega⟩
    simp only [careenlaw14_few.l0]
    rw [if_pos (by omega), if_pos (by omega), if_pos (by omega), w64 (by omega) (by omega)]
    split
    · exact ⟨_, rfl⟩
    · exact ih k (i + 1) (by omega) (by omega)
theorem fewp_ev (l : List S23) (hl : l.length ≤ 9223372036854775807) : ∃ b, Ev (fun k => careenlaw14_few.f k l) b := by
  obtain ⟨b, hb⟩ := fewp_l0 l hl l.length (l.length + 1) 0 (by omega) (by omega)
  exact ⟨b, Ev.of (g := fun k => careenlaw14_few.f k l) (careenlaw14_few.mono l) (k := l.length + 1) hb⟩
/-- One record upon one page. -/
def applyS (x : S58) (p : S23) : S23 := ⟨(applyF p.f0 p.f1 x.f0 x.f1.f0 x.f1.f3 x.f1.f8).1, (applyF p.f0 p.f1 x.f0 x.f1.f0 x.f1.f3 x.f1.f8).2⟩
def stepP (from_ : Int) (ps : List S23) (x : S58) : List S23 :=
  if x.f0 ≥ from_ ∧ x.f1.f2 ≥ 0 ∧ x.f1.f2 < (ps.length : Int) then ps.set x.f1.f2.toNat (applyS x (rd_T23 ps x.f1.f2)) else ps
def pagesF (from_ : Int) (l : List S58) (ps : List S23) : List S23 := l.foldl (stepP from_) ps
theorem stepP_len (from_ : Int) (ps : List S23) (x : S58) : (stepP from_ ps x).length = ps.length := by
  unfold stepP; split <;> simp
theorem pagesF_len (from_ : Int) (l : List S58) : ∀ ps, (pagesF from_ l ps).length = ps.length := by
  induction l with
  | nil => intro ps; rfl
  | cons x r ih => intro ps; show (pagesF from_ r (stepP from_ ps x)).length = _; rw [ih, stepP_len]
theorem rd58 (l : List S58) (i : Nat) (h : i < l.length) : rd_T58 l (i : Int) = l[i] := by simp [rd_T58, h]
theorem pages_l0 (l : List S58) (from_ : Int) (hw : ∀ x ∈ l, x.f1.f8.size ≤ 140737488351232) : ∀ (d k i : Nat) (ps : List S23), i + d = l.length → d < k → redo_Pages.l0 (k + 1) l from_ ps (i : Int) = some (pagesF from_ (l.drop i) ps) := by
  intro d
  induction d with
  | zero =>
    intro k i ps hi hk
    simp only [redo_Pages.l0]
    rw [if_neg (by omega), List.drop_of_length_le (by omega)]; rfl
  | succ d ih =>
    intro k i ps hi hk
    obtain ⟨k, rfl⟩ : ∃ m, k = m + 1 := ⟨k - 1, by omega⟩
    have hlt : i < l.length := by omega
    rw [List.drop_eq_getElem_cons hlt]
    have h8 := hw _ (List.getElem_mem hlt)
    simp only [redo_Pages.l0]
    rw [if_pos (by omega), rd58 l i hlt]
    show _ = some (pagesF from_ (l.drop (i + 1)) (stepP from_ ps l[i]))
    unfold stepP
    split
    · rw [apply_eq k _ _ _ _ _ _ _ _ _ _ _ _ _ _ h8]
      simp only [Option.bind_some]
      exact ih k (i + 1) _ (by omega) (by omega)
    · exact ih k (i + 1) _ (by omega) (by omega)
theorem pages_ev (l : List S58) (from_ : Int) (ps : List S23) (hw : ∀ x ∈ l, x.f1.f8.size ≤ 140737488351232) (hl : l.length < 9223372036854775807) (hp : ps.length * 24 ≤ 140737488355328) : Ev (fun k => redo_Pages.f k l from_ ps) (pagesF from_ l ps) := by
  refine Ev.of (g := fun k => redo_Pages.f k l from_ ps) (redo_Pages.mono l from_ ps) (k := l.length + 2) ?_
  show redo_Pages.f _ _ _ _ = _
  unfold redo_Pages.f
  rw [if_pos ⟨hl, hp⟩]
  have := pages_l0 l from_ hw l.length (l.length + 1) 0 ps (by omega) (by omega)
  simpa using this
theorem refpages_l0 (l : List S58) (from_ : Int) (hw : ∀ x ∈ l, x.f1.f8.size ≤ 140737488351232) (hl : l.length ≤ 9223372036854775807) : ∀ (d k i : Nat) (ps : List S23), i + d = l.length → d < k → careenref14_Pages.l0 (k + 1) l from_ ps (i : Int) = some (pagesF from_ (l.drop i) ps) := by
  intro d
  induction d with
  | zero =>
    intro k i ps hi hk
    simp only [careenref14_Pages.l0]
    rw [if_neg (by omega), List.drop_of_length_le (by omega)]; rfl
  | succ d ih =>
    intro k i ps hi hk
    obtain ⟨k, rfl⟩ : ∃ m, k = m + 1 := ⟨k - 1, by omega⟩
    have hlt : i < l.length := by omega
    rw [List.drop_eq_getElem_cons hlt]
    have h8 := hw _ (List.getElem_mem hlt)
    simp only [careenref14_Pages.l0]
    rw [if_pos (by omega), if_pos (by omega), rd58 l i hlt, w64 (by omega) (by omega)]
    show _ = some (pagesF from_ (l.drop (i + 1)) (stepP from_ ps l[i]))
    unfold stepP
    by_cases c1 : (l[i]).f0 ≥ from_
    · by_cases c2 : (l[i]).f1.f2 ≥ 0
      · by_cases c3 : (l[i]).f1.f2 < (ps.length : Int)
        · rw [if_pos c1, if_pos c2, if_pos c3, if_pos c2, if_pos ⟨c1, c2, c3⟩, refapply_eq k _ _ _ _ _ _ _ _ _ _ _ _ _ _ h8]
          simp only [Option.bind_some]
          exact ih k (i + 1) _ (by omega) (by omega)
        · rw [if_pos c1, if_pos c2, if_neg c3, if_neg (show ¬ (_ ∧ _ ∧ _) from fun h => c3 h.2.2)]
          exact ih k (i + 1) _ (by omega) (by omega)
      · rw [if_pos c1, if_neg c2, if_neg (show ¬ (_ ∧ _ ∧ _) from fun h => c2 h.2.1)]
        exact ih k (i + 1) _ (by omega) (by omega)
    · rw [if_neg c1, if_neg (show ¬ (_ ∧ _ ∧ _) from fun h => c1 h.1)]
      exact ih k (i + 1) _ (by omega) (by omega)
theorem refpages_ev (l : List S58) (from_ : Int) (ps : List S23) (hw : ∀ x ∈ l, x.f1.f8.size ≤ 140737488351232) (hl : l.length ≤ 9223372036854775807) (hp : ps.length < 5864062014805) : Ev (fun k => careenref14_Pages.f k l from_ ps) (pagesF from_ l ps) := by
  refine Ev.of (g := fun k => careenref14_Pages.f k l from_ ps) (careenref14_Pages.mono l from_ ps) (k := l.length + 2) ?_
  show careenref14_Pages.f _ _ _ _ = _
  unfold careenref14_Pages.f
  simp only [Option.bind_some, List.nil_append, List.length_nil, Nat.zero_add]
  rw [if_pos hp]
  have := refpages_l0 l from_ hw hl l.length (l.length + 1) 0 ps (by omega) (by omega)
  simpa using this
/-- One page, put together. -/
def oneF (l : List S58) (n : Int) (p : Int × ByteArray) : Int × ByteArray := l.foldl (fun p x => if x.f1.f2 = n then applyF p.1 p.2 x.f0 x.f1.f0 x.f1.f3 x.f1.f8 else p) p
theorem one_l0 (l : List S58) (n : Int) (hw : ∀ x ∈ l, x.f1.f8.size ≤ 140737488351232) (hl : l.length ≤ 9223372036854775807) : ∀ (d k i : Nat) (p : Int × ByteArray), i + d = l.length → d < k → redo_One.l0 (k + 1) n l (l.length : Int) (i : Int) p.1 p.2 = some (oneF (l.drop i) n p) := by
  intro d
  induction d with
  | zero =>
    intro k i ps hi hk
    simp only [redo_One.l0]
    rw [if_neg (by omega), List.drop_of_length_le (by omega)]; rfl
  | succ d ih =>
    intro k i p hi hk
    obtain ⟨k, rfl⟩ : ∃ m, k = m + 1 := ⟨k - 1, by omega⟩
    have hlt : i < l.length := by omega
    rw [List.drop_eq_getElem_cons hlt]
    have h8 := hw _ (List.getElem_mem hlt)
    simp only [redo_One.l0]
    rw [if_pos (by omega), if_pos (by omega), if_pos (by omega), rd58 l i hlt, w64 (by omega) (by omega)]
    show _ = some (oneF (l.drop (i + 1)) n (if (l[i]).f1.f2 = n then applyF p.1 p.2 (l[i]).f0 (l[i]).f1.f0 (l[i]).f1.f3 (l[i]).f1.f8 else p))
    by_cases c : (l[i]).f1.f2 = n
    · rw [if_pos c, if_pos c, apply_eq k _ _ _ _ _ _ _ _ _ _ _ _ _ _ h8]
      simp only [Option.bind_some]
      exact ih k (i + 1) _ (by omega) (by omega)
    · rw [if_neg c, if_neg c]
      exact ih k (i + 1) _ (by omega) (by omega)
theorem one_ev (l : List S58) (n : Int) (hw : ∀ x ∈ l, x.f1.f8.size ≤ 140737488351232) (hl : l.length ≤ 9223372036854775807) : Ev (fun k => redo_One.f k l n) (oneF l n (0, Arr.noughts 220)) := by
  refine Ev.of (g := fun k => redo_One.f k l n) (redo_One.mono l n) (k := l.length + 2) ?_
  show redo_One.f _ _ _ = _
  unfold redo_One.f
  rw [empty_eq]
  simp only [Option.bind_some]
  have := one_l0 l n hw hl l.length (l.length + 1) 0 (0, Arr.noughts 220) (by omega) (by omega)
  simpa using this
theorem refone_l0 (l : List S58) (n : Int) (hw : ∀ x ∈ l, x.f1.f8.size ≤ 140737488351232) (hl : l.length ≤ 9223372036854775807) : ∀ (d k i : Nat) (p : Int × ByteArray), i + d = l.length → d < k → careenref14_One.l0 (k + 1) l n (i : Int) p.1 p.2 = some (oneF (l.drop i) n p) := by
  intro d
  induction d with
  | zero =>
    intro k i ps hi hk
    simp only [careenref14_One.l0]
    rw [if_neg (by omega), List.drop_of_length_le (by omega)]; rfl
  | succ d ih =>
    intro k i p hi hk
    obtain ⟨k, rfl⟩ : ∃ m, k = m + 1 := ⟨k - 1, by omega⟩
    have hlt : i < l.length := by omega
    rw [List.drop_eq_getElem_cons hlt]
    have h8 := hw _ (List.getElem_mem hlt)
    simp only [careenref14_One.l0]
    rw [if_pos (by omega), if_pos (by omega), rd58 l i hlt, w64 (by omega) (by omega)]
    show _ = some (oneF (l.drop (i + 1)) n (if (l[i]).f1.f2 = n then applyF p.1 p.2 (l[i]).f0 (l[i]).f1.f0 (l[i]).f1.f3 (l[i]).f1.f8 else p))
    by_cases c : (l[i]).f1.f2 = n
    · rw [if_pos c, if_pos c, refapply_eq k _ _ _ _ _ _ _ _ _ _ _ _ _ _ h8]
      simp only [Option.bind_some]
      exact ih k (i + 1) _ (by omega) (by omega)
    · rw [if_neg c, if_neg c]
      exact ih k (i + 1) _ (by omega) (by omega)
theorem refone_ev (l : List S58) (n : Int) (hw : ∀ x ∈ l, x.f1.f8.size ≤ 140737488351232) (hl : l.length ≤ 9223372036854775807) : Ev (fun k => careenref14_One.f k l n) (oneF l n (0, Arr.noughts 220)) := by
  refine Ev.of (g := fun k => careenref14_One.f k l n) (careenref14_One.mono l n) (k := l.length + 2) ?_
  show careenref14_One.f _ _ _ = _
  unfold careenref14_One.f
  rw [empty_ref]
  simp only [Option.bind_some]
  have := refone_l0 l n hw hl l.length (l.length + 1) 0 (0, Arr.noughts 220) (by omega) (by omega)
  simpa using this
/-- Are two lists of pages the same, from a place on? -/
def sameP (a b : S23) : Bool := !(!(a.f0 == b.f0) || (!(a.f1.toList == b.f1.toList)))
def sameB : List S23 → List S23 → Bool
  | [], [] => true
  | x :: r, y :: s => sameP x y && sameB r s
  | _, _ => false
theorem sameB_refl : ∀ a : List S23, sameB a a = true
  | [] => rfl
  | x :: r => by simp [sameB, sameP, sameB_refl r]
theorem sameB_len : ∀ (a b : List S23), a.length ≠ b.length → sameB a b = false
  | [], [], h => absurd rfl h
  | x :: r, y :: s, h => by simp only [sameB]; rw [sameB_len r s (fun e => h (by simp [e]))]; simp
  | [], _ :: _, _ => rfl
  | _ :: _, [], _ => rfl
theorem rd23 (l : List S23) (i : Nat) (h : i < l.length) : rd_T23 l (i : Int) = l[i] := by simp [rd_T23, h]
theorem same_l0 (a b : List S23) (hab : a.length = b.length) (hl : a.length ≤ 9223372036854775807) : ∀ (d k i : Nat), i + d = a.length → d < k → api_Page.l0 k a b (a.length : Int) (i : Int) = some (sameB (a.drop i) (b.drop i)) := by
  intro d
  induction d with
  | zero =>
    intro k i hi hk
    obtain ⟨k, rfl⟩ : ∃ m, k = m + 1 := ⟨k - 1, by omega⟩
    simp only [api_Page.l0]
    rw [if_neg (by omega), List.drop_of_length_le (by omega), List.drop_of_length_le (by omega)]; rfl
  | succ d ih =>
    intro k i hi hk
    obtain ⟨k, rfl⟩ : ∃ m, k = m + 1 := ⟨k - 1, by omega⟩
    have h1 : i < a.length := by omega
    have h2 : i < b.length := by omega
    rw [List.drop_eq_getElem_cons h1, List.drop_eq_getElem_cons h2]
    simp only [api_Page.l0]
    rw [if_pos (by omega), if_pos (by omega), if_pos (by omega), if_pos (by omega), rd23 a i h1, rd23 b i h2, w64 (by omega) (by omega)]
    simp only [sameB, sameP]
    split
    · rename_i h; rw [h]; rfl
    · rename_i h
      rw [Bool.not_eq_true] at h
      rw [h]
      have := ih k (i + 1) (by omega) (by omega)
      simpa using this
theorem same_ev (a b : List S23) (hl : a.length ≤ 9223372036854775807) : Ev (fun k => redo_Same.f k a b) (sameB a b) := by
  refine Ev.of (g := fun k => redo_Same.f k a b) (redo_Same.mono a b) (k := a.length + 1) ?_
  show redo_Same.f _ _ _ = _
  unfold redo_Same.f api_Page.f
  by_cases h : a.length = b.length
  · rw [if_pos (by omega)]
    have := same_l0 a b h hl a.length (a.length + 1) 0 (by omega) (by omega)
    rw [show ((0 : Nat) : Int) = 0 from rfl] at this
    rw [this]; rfl
  · rw [if_neg (by omega), sameB_len a b h]; rfl
theorem refsame_l0 (a b : List S23) (hab : a.length = b.length) (hl : a.length ≤ 9223372036854775807) : ∀ (d k i : Nat), i + d = a.length → d < k → careenref14_Same.l0 k a b (i : Int) = some (sameB (a.drop i) (b.drop i)) := by
  intro d
  induction d with
  | zero =>
    intro k i hi hk
    obtain ⟨k, rfl⟩ : ∃ m, k = m + 1 := ⟨k - 1, by omega⟩
    simp only [careenref14_Same.l0]
    rw [if_neg (by omega), List.drop_of_length_le (by omega), List.drop_of_length_le (by omega)]; rfl
  | succ d ih =>
    intro k i hi hk
    obtain ⟨k, rfl⟩ : ∃ m, k = m + 1 := ⟨k - 1, by omega⟩
    have h1 : i < a.length := by omega
    have h2 : i < b.length := by omega
    rw [List.drop_eq_getElem_cons h1, List.drop_eq_getElem_cons h2]
    simp only [careenref14_Same.l0]
    rw [if_pos (by omega), if_pos (by omega), if_pos (by omega), rd23 a i h1, rd23 b i h2, w64 (by omega) (by omega)]
    simp only [sameB, sameP]
    split
    · rename_i h; rw [h]; rfl
    · rename_i h
      rw [Bool.not_eq_true] at h
      rw [h]
      have := ih k (i + 1) (by omega) (by omega)
      simpa using this
theorem refsame_ev (a b : List S23) (hl : a.length ≤ 9223372036854775807) : Ev (fun k => careenref14_Same.f k a b) (sameB a b) := by
  refine Ev.of (g := fun k => careenref14_Same.f k a b) (careenref14_Same.mono a b) (k := a.length + 1) ?_
  show careenref14_Same.f _ _ _ = _
  unfold careenref14_Same.f
  by_cases h : a.length = b.length
  · rw [if_pos (by omega)]
    have := refsame_l0 a b h hl a.length (a.length + 1) 0 (by omega) (by omega)
    exact this
  · rw [if_neg (by omega), sameB_len a b h]
end Go.Proofs.Ytlgcmcieipdcgaa.X14
