/- For every list of entries, two places and list of pages, the law RedoAgain returns true: redo of what was redone does nothing. No condition. -/
import Derived.Test.YtlgcmcieipdcgaaPure14
import Derived.Test.YtlgcmcieipdcgaaX14RowRedoAgain
namespace Go.Proofs.Ytlgcmcieipdcgaa.X14
open Go Go.RowKit Go.Proofs.YtlgcmcieipdcgaaW.PrintWords Go.Proofs.Ytlgcmcieipdcgaa.Page
set_option linter.unusedVariables false
theorem put_at (p0 : Int) (p1 : ByteArray) (off : Int) (s : ByteArray) (a : Int) (h : (putF p0 p1 off s a).2.2 = 0) : (putF p0 p1 off s a).1 = a := by
  unfold putF at *
  split at h
  · split at h
    · split at h
      · simp_all
      · cases h
    · cases h
  · cases h
theorem apply_or (x : S58) (p : S23) : applyS x p = p ∨ (applyS x p).f0 = x.f0 := by
  unfold applyS applyF
  split
  · rename_i h; exact .inr (put_at _ _ _ _ _ h.2.2)
  · exact .inl rfl
theorem apply_low (x : S58) (p : S23) (h : x.f0 ≤ p.f0) : applyS x p = p := by
  unfold applyS applyF
  rw [if_neg (by omega)]
/-- x does nothing to ps. -/
def Still (from_ : Int) (ps : List S23) (x : S58) : Prop :=
  ∀ n : Nat, x.f0 ≥ from_ → x.f1.f2 = (n : Int) → ∀ h : n < ps.length, applyS x ps[n] = ps[n]
theorem still_step (from_ : Int) (ps : List S23) (x : S58) (h : Still from_ ps x) : stepP from_ ps x = ps := by
  unfold stepP
  split
  · rename_i c
    obtain ⟨n, hn⟩ := Int.eq_ofNat_of_zero_le c.2.1
    have hl : n < ps.length := by omega
    have e := h n c.1 hn hl
    rw [hn, rd23 ps n hl, e, Int.toNat_natCast]
    exact List.set_getElem_self hl
  · rfl
/-- What stood still stands still behind a later record; the record itself stands still. -/
theorem keep_step (from_ again : Int) (hge : from_ ≤ again) (ps : List S23) (x y : S58) (hy : y = x ∨ (y.f0 < x.f0 ∧ Still again ps y)) : Still again (stepP from_ ps x) y := by
  by_cases c : x.f0 ≥ from_ ∧ x.f1.f2 ≥ 0 ∧ x.f1.f2 < (ps.length : Int)
  · obtain ⟨m, hm⟩ := Int.eq_ofNat_of_zero_le c.2.1
    have hml : m < ps.length := by omega
    have e : stepP from_ ps x = ps.set m (applyS x ps[m]) := by
      unfold stepP
      rw [if_pos c, hm, rd23 ps m hml, Int.toNat_natCast]
    rw [e]
    intro n hf hn hl
    have hnl : n < ps.length := by simpa using hl
    rw [List.getElem_set]
    by_cases e : m = n
    · subst e
      simp only [if_true]
      rcases hy with rfl | ⟨hlt, hs⟩
      · rcases apply_or y ps[m] with q | q
        · rw [q, q]
        · exact apply_low _ _ (by omega)
      · rcases apply_or x ps[m] with q | q
        · rw [q]; exact hs m hf hn hml
        · exact apply_low _ _ (by omega)
    · simp only [e, if_false]
      rcases hy with rfl | ⟨hlt, hs⟩
      · rw [hm] at hn; omega
      · exact hs n hf hn hnl
  · have e : stepP from_ ps x = ps := by
      unfold stepP
      rw [if_neg c]
    rw [e]
    intro n hf hn hl
    rcases hy with rfl | ⟨hlt, hs⟩
    · exact absurd ⟨by omega, by omega, by omega⟩ c
    · exact hs n hf hn hl
theorem keep_all (from_ again : Int) (hge : from_ ≤ again) : ∀ (l done : List S58) (ps : List S23), (∀ y ∈ done, Still again ps y) → (∀ y ∈ done, ∀ x ∈ l, y.f0 < x.f0) → (l.Pairwise fun a b => a.f0 < b.f0) → ∀ y, y ∈ done ∨ y ∈ l → Still again (pagesF from_ l ps) y
  | [], done, ps, hs, _, _, y, hy => by
    rcases hy with hy | hy
    · exact hs y hy
    · cases hy
  | x :: r, done, ps, hs, hlt, hp, y, hy => by
    have hp' := List.pairwise_cons.1 hp
    refine keep_all from_ again hge r (x :: done) (stepP from_ ps x) ?_ ?_ hp'.2 y ?_
    · intro z hz
      refine keep_step from_ again hge ps x z ?_
      rcases List.mem_cons.1 hz with rfl | hz
      · exact .inl rfl
      · exact .inr ⟨hlt z hz x (by simp), hs z hz⟩
    · intro z hz q hq
      rcases List.mem_cons.1 hz with rfl | hz
      · exact hp'.1 q hq
      · exact hlt z hz q (List.mem_cons_of_mem _ hq)
    · rcases hy with hy | hy
      · exact .inl (List.mem_cons_of_mem _ hy)
      · rcases List.mem_cons.1 hy with rfl | hy
        · exact .inl (by simp)
        · exact .inr hy
theorem still_all (from_ : Int) : ∀ (l : List S58) (ps : List S23), (∀ y ∈ l, Still from_ ps y) → pagesF from_ l ps = ps
  | [], ps, _ => rfl
  | x :: r, ps, h => by
    show pagesF from_ r (stepP from_ ps x) = ps
    rw [still_step from_ ps x (h x (by simp))]
    exact still_all from_ r ps (fun y hy => h y (List.mem_cons_of_mem _ hy))
/-- Redo of what was redone does nothing. -/
theorem again_eq (from_ again : Int) (hge : from_ ≤ again) (l : List S58) (ps : List S23) (hp : l.Pairwise fun a b => a.f0 < b.f0) : pagesF again l (pagesF from_ l ps) = pagesF from_ l ps :=
  still_all again l _ (fun y hy => keep_all from_ again hge l [] ps (by simp) (by simp) hp y (.inr hy))
/-- Rises: the places go up. -/
def risesB : List S58 → Bool
  | x :: y :: r => decide (x.f0 < y.f0) && risesB (y :: r)
  | _ => true
theorem rises_pair : ∀ (l : List S58), risesB l = true → l.Pairwise fun a b => a.f0 < b.f0
  | [], _ => List.Pairwise.nil
  | [x], _ => by simp
  | x :: y :: r, h => by
    simp only [risesB, Bool.and_eq_true, decide_eq_true_eq] at h
    have ih := rises_pair (y :: r) h.2
    refine List.pairwise_cons.2 ⟨fun z hz => ?_, ih⟩
    rcases List.mem_cons.1 hz with rfl | hz
    · exact h.1
    · have := (List.pairwise_cons.1 ih).1 z hz; omega
theorem rises_l0 (l : List S58) (hl : l.length < 9223372036854775800) : ∀ (d i : Nat), i + d = l.length → 0 < i → Ev (fun k => careenref11_Rises.l0 k l (i : Int)) (risesB (l.drop (i - 1))) := by
  intro d
  induction d with
  | zero =>
    intro i hi h0
    refine Ev.step (f := fun k => some (risesB (l.drop (i - 1)))) ?_ (Ev.now _)
    intro k
    simp only [careenref11_Rises.l0]
    rw [if_neg (by omega)]
    rw [List.drop_eq_getElem_cons (by omega), show i - 1 + 1 = i by omega, List.drop_of_length_le (by omega)]
    rfl
  | succ d ih =>
    intro i hi h0
    have h1 : i - 1 < l.length := by omega
    have h2 : i < l.length := by omega
    have e : l.drop (i - 1) = l[i - 1] :: l.drop i := by rw [List.drop_eq_getElem_cons h1, show i - 1 + 1 = i by omega]
    have e2 : l.drop i = l[i] :: l.drop (i + 1) := List.drop_eq_getElem_cons h2
    refine Ev.step (f := fun k => if (l[i - 1]).f0 ≥ (l[i]).f0 then some false else careenref11_Rises.l0 k l ((i + 1 : Nat) : Int)) ?_ ?_
    · intro k
      simp only [careenref11_Rises.l0]
      rw [w64 (x := (i : Int) - 1) (by omega) (by omega), if_pos (by omega), if_pos (by omega), if_pos (by omega), if_pos (by omega), w64 (by omega) (by omega), show ((i : Int) - 1) = ((i - 1 : Nat) : Int) by omega, rd58 l (i - 1) h1, rd58 l i h2]
      rfl
    · rw [e, e2]
      simp only [risesB]
      by_cases c : (l[i - 1]).f0 ≥ (l[i]).f0
      · simp only [c, if_true, show ¬ (l[i - 1]).f0 < (l[i]).f0 by omega, decide_false, Bool.false_and]; exact Ev.now false
      · simp only [c, if_false, show (l[i - 1]).f0 < (l[i]).f0 by omega, decide_true, Bool.true_and]
        have := ih (i + 1) (by omega) (by omega)
        rw [show i + 1 - 1 = i by omega, e2] at this
        exact this
theorem rises_ev (l : List S58) (hl : l.length < 9223372036854775800) : Ev (fun k => careenref11_Rises.f k l) (risesB l) := by
  show Ev (fun k => careenref11_Rises.l0 k l 1) _
  cases l with
  | nil =>
    refine Ev.step (f := fun k => some true) ?_ (Ev.now _)
    intro k
    simp [careenref11_Rises.l0]
  | cons x r => exact rises_l0 (x :: r) hl r.length 1 (by simp; omega) (by omega)
theorem again_j (l : List S58) (from_ again : Int) (ps : List S23) (x : Bool) (hx : x = false → risesB l = true) (hw : ∀ x ∈ l, x.f1.f8.size ≤ 140737488351232) (hl : l.length < 9223372036854775800) (hp : ps.length * 24 ≤ 140737488351232) : Ev (fun k => careenlaw14_RedoAgain.j0 k l from_ again ps x) true := by
  cases x with
  | true =>
    refine ⟨1, fun k hk => ?_⟩
    obtain ⟨k, rfl⟩ : ∃ m, k = m + 1 := ⟨k - 1, by omega⟩
    rfl
  | false =>
    refine Ev.step (f := fun k => (redo_Pages.f k l from_ ps).bind fun t => if again < from_ then some true else (redo_Pages.f k l again t).bind fun u => (careenref14_Same.f k u t).bind fun v => some v) ?_ ?_
    · intro k
      simp only [careenlaw14_RedoAgain.j0]
      rw [if_neg (by simp)]
    · have L := pagesF_len from_ l ps
      refine Ev.bind (pages_ev l from_ ps hw (by omega) (by omega)) ?_
      by_cases c : again < from_
      · simp only [c, if_true]; exact Ev.now true
      · simp only [c, if_false]
        refine Ev.bind (pages_ev l again _ hw (by omega) (by omega)) ?_
        rw [again_eq from_ again (by omega) l ps (rises_pair l (hx rfl))]
        refine Ev.bind (refsame_ev _ _ (by omega)) ?_
        rw [sameB_refl]
        exact Ev.now true
theorem RedoAgain : RowRedoAgain.Pure := by
  intro l from_ again ps h0 h1 h2 h3
  apply Ev.rounds
  have hl : l.length < 9223372036854775800 := by
    have := h0.2.1
    have e : Try.prog.bytesOf 58 = 144 := by kernel_rfl
    rw [e] at this; omega
  have hp : ps.length * 24 ≤ 140737488351232 := by
    have := h3.2.1
    have e : Try.prog.bytesOf 23 = 24 := by kernel_rfl
    rwa [e] at this
  have hw : ∀ x ∈ l, x.f1.f8.size ≤ 140737488351232 := fun x hx => (h0.2.2 x hx).2.2.2.2.2.2.2.2.2.1
  obtain ⟨b, hb⟩ := few_ev l (by omega)
  obtain ⟨c, hc⟩ := fewp_ev ps (by omega)
  unfold careenlaw14_RedoAgain.f careenlaw14_awake.f
  simp only [Option.bind_some, if_true]
  refine Ev.bind hb ?_
  have no : ∀ y, Ev (fun k => careenlaw14_RedoAgain.j0 k l from_ again ps true) y → Ev (fun k => careenlaw14_RedoAgain.j0 k l from_ again ps true) y := fun _ h => h
  cases b with
  | true =>
    simp only [if_true]
    refine Ev.bind (rises_ev l hl) ?_
    cases hr : risesB l with
    | true =>
      simp only [if_true]
      refine Ev.bind hc ?_
      exact again_j l from_ again ps _ (fun _ => hr) hw hl hp
    | false => exact again_j l from_ again ps true (fun h => by cases h) hw hl hp
  | false => exact again_j l from_ again ps true (fun h => by cases h) hw hl hp
theorem redoAgain_holds : Rows.RedoAgainSaid := RowRedoAgain.holds RedoAgain
end Go.Proofs.Ytlgcmcieipdcgaa.X14
