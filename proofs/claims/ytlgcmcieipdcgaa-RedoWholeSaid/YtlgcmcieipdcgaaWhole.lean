import Derived.Test.YtlgcmcieipdcgaaX14x90
/-! RedoWhole, the plain law: a page that has a beginning of its own changes comes to have all of them. -/
namespace Go.Proofs.Ytlgcmcieipdcgaa.X14
open Go Go.RowKit Go.Proofs.YtlgcmcieipdcgaaW.PrintWords Go.Proofs.Ytlgcmcieipdcgaa.Page
set_option linter.unusedVariables false
/-- A record that can be done to a page. -/
def does (x : S58) : Prop := (x.f1.f0 = 1 ∨ x.f1.f0 = 2) ∧ 0 ≤ x.f1.f3 ∧ x.f1.f3 + x.f1.f8.size ≤ 220
def Sound (p : S23) : Prop := 0 ≤ p.f0 ∧ p.f0 ≤ 2147483647 ∧ p.f1.size = 220
/-- The law's own test: done to a page of noughts it leaves place 1. -/
def effB (x : S58) : Bool := (applyF 0 (Arr.noughts 220) 1 x.f1.f0 x.f1.f3 x.f1.f8).1 == 1
theorem effB_iff (x : S58) : effB x = true ↔ does x := by
  unfold effB applyF putF does
  have hn : (Arr.noughts 220).size = 220 := Arr.noughts_size 220
  rw [if_pos (show (0 : Int) ≤ 0 ∧ (0 : Int) ≤ 2147483647 ∧ (Arr.noughts 220).size = 220 from ⟨by omega, by omega, hn⟩), if_pos (show (0 : Int) ≤ 1 ∧ (1 : Int) ≤ 2147483647 by omega)]
  by_cases h : 0 ≤ x.f1.f3 ∧ x.f1.f3 + x.f1.f8.size ≤ 220
  · rw [if_pos h]
    by_cases k : x.f1.f0 = 1 ∨ x.f1.f0 = 2
    · rw [if_pos ⟨k, by omega, rfl⟩]; simp [k, h]
    · rw [if_neg (fun q => k q.1)]; simp [k]
  · rw [if_neg h, if_neg (fun q => by simp at q)]
    simp only [beq_iff_eq, Int.reduceEq, false_iff]
    intro q; first | exact h q.2 | (simp at q) | exact absurd q (by decide)
theorem apply_sound (x : S58) (p : S23) (hp : Sound p) : Sound (applyS x p) ∧
    (does x → p.f0 < x.f0 → 0 ≤ x.f0 → x.f0 ≤ 2147483647 → (applyS x p).f0 = x.f0) ∧ ((¬ does x ∨ x.f0 ≤ p.f0 ∨ 2147483647 < x.f0) → applyS x p = p) := by
  unfold applyS applyF putF does
  have hp' : 0 ≤ p.f0 ∧ p.f0 ≤ 2147483647 ∧ p.f1.size = 220 := hp
  rw [if_pos hp']
  by_cases ha : 0 ≤ x.f0 ∧ x.f0 ≤ 2147483647
  · rw [if_pos ha]
    by_cases h : 0 ≤ x.f1.f3 ∧ x.f1.f3 + x.f1.f8.size ≤ 220
    · rw [if_pos h]
      by_cases k : (x.f1.f0 = 1 ∨ x.f1.f0 = 2) ∧ p.f0 < x.f0
      · rw [if_pos ⟨k.1, k.2, rfl⟩]
        refine ⟨⟨ha.1, ha.2, ?_⟩, fun _ _ _ _ => rfl, fun q => ?_⟩
        · show (Arr.splice p.f1 x.f1.f3.toNat x.f1.f8).size = 220
          rw [Arr.splice_size _ _ _ (by omega)]; exact hp'.2.2
        · exfalso
          rcases q with q | q | q
          · exact q ⟨k.1, h⟩
          · omega
          · omega
      · rw [if_neg (fun q => k ⟨q.1, q.2.1⟩)]
        exact ⟨hp, fun q1 q2 _ _ => absurd ⟨q1.1, q2⟩ k, fun _ => rfl⟩
    · rw [if_neg h, if_neg (fun q => by simp at q)]
      exact ⟨hp, fun q1 _ _ _ => absurd q1.2 h, fun _ => rfl⟩
  · rw [if_neg ha, if_neg (fun q => by simp at q)]
    exact ⟨hp, fun _ _ q1 q2 => absurd ⟨q1, q2⟩ ha, fun _ => rfl⟩
/-- The entries that are done to page n. -/
def valB (n : Int) (x : S58) : Bool := x.f1.f2 == n && effB x && decide (x.f0 ≤ 2147483647)
def vals (n : Int) (l : List S58) : List S58 := l.filter (valB n)
theorem vals_app (n : Int) (a b : List S58) : vals n (a ++ b) = vals n a ++ vals n b := List.filter_append ..
theorem vals_pos {n : Int} {x : S58} (c : valB n x = true) (r : List S58) : vals n (x :: r) = x :: vals n r := List.filter_cons_of_pos c
theorem vals_neg {n : Int} {x : S58} (c : ¬ valB n x = true) (r : List S58) : vals n (x :: r) = vals n r := List.filter_cons_of_neg c
def oneS (v : List S58) : S23 := v.foldl (fun p x => applyS x p) ⟨0, Arr.noughts 220⟩
theorem oneS_snoc (v : List S58) (x : S58) : oneS (v ++ [x]) = applyS x (oneS v) := by unfold oneS; rw [List.foldl_append]; rfl
/-- Good: each can be done, its place from 1 on, rising. -/
def Good (v : List S58) : Prop := (∀ x ∈ v, does x ∧ 1 ≤ x.f0 ∧ x.f0 ≤ 2147483647) ∧ v.Pairwise fun a b => a.f0 < b.f0
theorem good_take {v : List S58} (h : Good v) (k : Nat) : Good (v.take k) := ⟨fun x hx => h.1 x (List.mem_of_mem_take hx), h.2.sublist (List.take_sublist k v)⟩
theorem oneS_at (v : List S58) (h : Good v) : ∀ k, k ≤ v.length → Sound (oneS (v.take k)) ∧ (∀ i (hi : i < v.length), i < k → (v[i]).f0 ≤ (oneS (v.take k)).f0) ∧ (∀ i (hi : i < v.length), k ≤ i → (oneS (v.take k)).f0 < (v[i]).f0) := by
  intro k
  induction k with
  | zero =>
    intro _
    refine ⟨⟨Int.le_refl 0, (by decide : (0 : Int) ≤ 2147483647), Arr.noughts_size 220⟩, fun i _ q => by omega, fun i hi _ => ?_⟩
    show (0 : Int) < _
    have := (h.1 _ (List.getElem_mem hi)).2.1; omega
  | succ k ih =>
    intro hk
    obtain ⟨s, lo, hi⟩ := ih (by omega)
    have hkl : k < v.length := by omega
    have e : v.take (k + 1) = v.take k ++ [v[k]] := by rw [List.take_succ_eq_append_getElem hkl]
    rw [e, oneS_snoc]
    have g := h.1 _ (List.getElem_mem hkl)
    have a := apply_sound v[k] (oneS (v.take k)) s
    have at_ := a.2.1 g.1 (hi k hkl (Nat.le_refl _)) (by omega) g.2.2
    have rise : ∀ i j (hi : i < v.length) (hj : j < v.length), i < j → (v[i]).f0 < (v[j]).f0 := fun i j hi hj hij => List.pairwise_iff_getElem.1 h.2 i j hi hj hij
    refine ⟨a.1, fun i hi' hlt => ?_, fun i hi' hle => ?_⟩
    · rw [at_]
      by_cases q : i = k
      · subst q; exact Int.le_refl _
      · have := rise i k hi' hkl (by omega); omega
    · rw [at_]; exact rise k i hkl hi' (by omega)
/-- One record, in redo from a place on, of page n. -/
def oneStep (from_ n : Int) (p : S23) (x : S58) : S23 := if x.f0 ≥ from_ ∧ x.f1.f2 = n then applyS x p else p
theorem whole_fold (from_ n : Int) (V : List S58) (hV : Good V) (k : Nat) (hk : k ≤ V.length) (hfrom : ∀ h : k < V.length, from_ ≤ (V[k]).f0) :
    ∀ (r d : List S58), vals n (d ++ r) = V → r.foldl (oneStep from_ n) (oneS (V.take (max k (vals n d).length))) = oneS V
  | [], d, hd => by
    rw [List.append_nil] at hd
    rw [hd]
    have e : max k V.length = V.length := by omega
    rw [e, List.take_length]; rfl
  | x :: r, d, hd => by
    have hd' : vals n ((d ++ [x]) ++ r) = V := by rw [List.append_assoc]; exact hd
    have hsub : vals n (d ++ [x]) = vals n d ++ vals n [x] := vals_app ..
    have hlen : (vals n (d ++ [x])).length ≤ V.length := by rw [← hd', vals_app n (d ++ [x]) r, List.length_append]; omega
    have ih := whole_fold from_ n V hV k hk hfrom r (d ++ [x]) hd'
    rw [List.foldl_cons]
    have S := oneS_at V hV (max k (vals n d).length) (by rw [hsub, List.length_append] at hlen; omega)
    by_cases c : valB n x = true
    · have e1 : vals n [x] = [x] := vals_pos c []
      have hj : (vals n d).length < V.length := by rw [hsub, e1, List.length_append] at hlen; exact hlen
      have hx : V[(vals n d).length] = x := by
        have : V = vals n d ++ (x :: vals n r) := by
          rw [← hd, vals_app, vals_pos c]
        simp [this]
      rw [hsub, e1, List.length_append] at ih
      simp only [valB, Bool.and_eq_true, beq_iff_eq, decide_eq_true_eq] at c
      by_cases q : (vals n d).length < k
      · have e2 : max k (vals n d).length = k := by omega
        have e3 : max k ((vals n d).length + [x].length) = k := by simp only [List.length_cons, List.length_nil]; omega
        rw [e3] at ih
        rw [e2] at S ⊢
        have low := S.2.1 _ hj q
        rw [hx] at low
        have : oneStep from_ n (oneS (V.take k)) x = oneS (V.take k) := by
          unfold oneStep
          split
          · exact (apply_sound x _ S.1).2.2 (.inr (.inl low))
          · rfl
        rw [this]; exact ih
      · have e2 : max k (vals n d).length = (vals n d).length := by omega
        have e3 : max k ((vals n d).length + [x].length) = (vals n d).length + 1 := by simp only [List.length_cons, List.length_nil]; omega
        rw [e3] at ih
        rw [e2]
        have hf : x.f0 ≥ from_ := by
          by_cases z : k = (vals n d).length
          · have := hfrom (by omega); simp only [z, hx] at this; omega
          · have hkl : k < V.length := by omega
            have h1 := hfrom hkl
            have h2 := List.pairwise_iff_getElem.1 hV.2 k _ hkl hj (by omega)
            rw [hx] at h2; omega
        have : oneStep from_ n (oneS (V.take (vals n d).length)) x = oneS (V.take ((vals n d).length + 1)) := by
          unfold oneStep
          rw [if_pos ⟨hf, c.1.1⟩, List.take_succ_eq_append_getElem hj, oneS_snoc, hx]
        rw [this]; exact ih
    · have e1 : vals n [x] = [] := vals_neg c []
      rw [hsub, e1, List.append_nil] at ih
      have : oneStep from_ n (oneS (V.take (max k (vals n d).length))) x = oneS (V.take (max k (vals n d).length)) := by
        unfold oneStep
        split
        · rename_i z
          refine (apply_sound x _ S.1).2.2 ?_
          by_cases w1 : effB x = true
          · by_cases w2 : x.f0 ≤ 2147483647
            · exact absurd (by simp [valB, z.2, w1, w2]) c
            · exact .inr (.inr (by omega))
          · exact .inl (fun q => w1 ((effB_iff x).2 q))
        · rfl
      rw [this]; exact ih
theorem vals_good (n : Int) (l : List S58) (hr : l.Pairwise fun a b => a.f0 < b.f0) (h1 : ∀ x ∈ l, 1 ≤ x.f0) : Good (vals n l) := by
  refine ⟨fun x hx => ?_, hr.filter _⟩
  have q := List.mem_filter.1 hx
  simp only [valB, Bool.and_eq_true, beq_iff_eq, decide_eq_true_eq] at q
  exact ⟨(effB_iff x).1 q.2.1.2, h1 x q.1, q.2.2⟩
theorem oneF_vals (n : Int) (v : List S58) (h : ∀ x ∈ v, x.f1.f2 = n) : ∀ p : S23, oneF v n (p.f0, p.f1) = ((v.foldl (fun p x => applyS x p) p).f0, (v.foldl (fun p x => applyS x p) p).f1) := by
  induction v with
  | nil => intro p; rfl
  | cons x r ih =>
    intro p
    show oneF r n (if x.f1.f2 = n then _ else _) = _
    rw [if_pos (h x (by simp))]
    exact ih (fun y hy => h y (List.mem_cons_of_mem _ hy)) (applyS x p)
end Go.Proofs.Ytlgcmcieipdcgaa.X14
