import Derived.Test.YtnhlfafdldpdgaaMeter
/-! Layer 19: plain laws of a meter behind many measures. -/
namespace Go.Proofs.Ytnhlfafdldpdgaa.Pol
open Go Go.RowKit Go.Proofs.Ytnhlfafdldpdgaa.Flt Go.Proofs.Ytnhlfafdldpdgaa.Cell Go.Proofs.YtnhlfafdldpdgaaW.PrintWords
set_option linter.unusedVariables false
def runS (xs : List Nat) : MS := xs.foldl noteS ms0
theorem runS_snoc (xs : List Nat) (x : Nat) : runS (xs ++ [x]) = noteS (runS xs) x := by unfold runS; rw [List.foldl_append]; rfl
theorem note_nan {s : MS} {x : Nat} (h : isN x = true) : noteS s x = s := by unfold noteS; rw [if_pos h]
theorem note_num {s : MS} {x : Nat} (h : isN x = false) : noteS s x = ⟨s.n + 1, meanS s x, sumS s x, loS s x, hiS s x⟩ := by unfold noteS; rw [if_neg (by rw [h]; decide)]
/-- What is known of a meter behind many measures. -/
structure Told (xs : List Nat) (s : MS) : Prop where
  count : s.n = (xs.filter (fun x => !isN x)).length
  least : ∀ x ∈ xs, isN x = false → kz s.lo ≤ kz x
  most : ∀ x ∈ xs, isN x = false → kz x ≤ kz s.hi
  lo_in : s.n ≠ 0 → ∃ x ∈ xs, isN x = false ∧ s.lo = x
  hi_in : s.n ≠ 0 → ∃ x ∈ xs, isN x = false ∧ s.hi = x
theorem told_snoc {xs : List Nat} {s : MS} (h : Told xs s) (x : Nat) : Told (xs ++ [x]) (noteS s x) := by
  cases hn : isN x with
  | true =>
    rw [note_nan hn]
    refine ⟨?_, ?_, ?_, ?_, ?_⟩
    · rw [List.filter_append, List.length_append, h.count]; simp [hn]
    · intro y hy hy2
      rcases List.mem_append.1 hy with q | q
      · exact h.least y q hy2
      · rw [List.mem_singleton.1 q, hn] at hy2; cases hy2
    · intro y hy hy2
      rcases List.mem_append.1 hy with q | q
      · exact h.most y q hy2
      · rw [List.mem_singleton.1 q, hn] at hy2; cases hy2
    · intro q
      obtain ⟨y, hy, h2⟩ := h.lo_in q
      exact ⟨y, List.mem_append_left _ hy, h2⟩
    · intro q
      obtain ⟨y, hy, h2⟩ := h.hi_in q
      exact ⟨y, List.mem_append_left _ hy, h2⟩
  | false =>
    rw [note_num hn]
    have h0 : s.n = 0 → ∀ y ∈ xs, isN y = true := by
      intro q y hy
      rw [h.count] at q
      have e := List.eq_nil_of_length_eq_zero q
      cases c : isN y with
      | true => rfl
      | false =>
        have : y ∈ xs.filter (fun x => !isN x) := List.mem_filter.2 ⟨hy, by simp [c]⟩
        rw [e] at this; cases this
    refine ⟨?_, ?_, ?_, ?_, ?_⟩
    · show s.n + 1 = _
      rw [List.filter_append, List.length_append, h.count]; simp [hn]
    · intro y hy hy2
      show kz (loS s x) ≤ kz y
      unfold loS
      rcases List.mem_append.1 hy with q | q
      · have h1 := h.least y q hy2
        split
        · rename_i c
          rcases c with c | c
          · have := h0 c y q; rw [this] at hy2; cases hy2
          · have := (ord_lt _ _).1 c; omega
        · exact h1
      · rw [List.mem_singleton.1 q]
        split
        · exact Int.le_refl _
        · rename_i c
          have c2 : ¬ ordF x s.lo < 0 := fun z => c (Or.inr z)
          have := mt (ord_lt _ _).2 c2; omega
    · intro y hy hy2
      show kz y ≤ kz (hiS s x)
      unfold hiS
      rcases List.mem_append.1 hy with q | q
      · have h1 := h.most y q hy2
        split
        · rename_i c
          rcases c with c | c
          · have := h0 c y q; rw [this] at hy2; cases hy2
          · have := (ord_pos _ _).1 c; omega
        · exact h1
      · rw [List.mem_singleton.1 q]
        split
        · exact Int.le_refl _
        · rename_i c
          have c2 : ¬ 0 < ordF x s.hi := fun z => c (Or.inr z)
          have := mt (ord_pos _ _).2 c2; omega
    · intro _
      show ∃ y ∈ xs ++ [x], isN y = false ∧ loS s x = y
      unfold loS
      by_cases c : s.n = 0 ∨ ordF x s.lo < 0
      · rw [if_pos c]; exact ⟨x, by simp, hn, rfl⟩
      · rw [if_neg c]
        obtain ⟨y, hy, h2⟩ := h.lo_in (fun z => c (Or.inl z))
        exact ⟨y, List.mem_append_left _ hy, h2⟩
    · intro _
      show ∃ y ∈ xs ++ [x], isN y = false ∧ hiS s x = y
      unfold hiS
      by_cases c : s.n = 0 ∨ 0 < ordF x s.hi
      · rw [if_pos c]; exact ⟨x, by simp, hn, rfl⟩
      · rw [if_neg c]
        obtain ⟨y, hy, h2⟩ := h.hi_in (fun z => c (Or.inl z))
        exact ⟨y, List.mem_append_left _ hy, h2⟩
theorem told_run (xs : List Nat) : Told xs (runS xs) := by
  have key : ∀ ys zs : List Nat, Told zs (runS zs) → Told (zs ++ ys) (runS (zs ++ ys)) := by
    intro ys
    induction ys with
    | nil => intro zs h; rwa [List.append_nil]
    | cons y r ih =>
      intro zs h
      have := ih (zs ++ [y]) (by rw [runS_snoc]; exact told_snoc h y)
      rwa [List.append_assoc] at this
  exact key xs [] ⟨rfl, by simp, by simp, fun h => absurd rfl h, fun h => absurd rfl h⟩
theorem run_ok (xs : List Nat) (h : xs.length ≤ 1000000) (hx : ∀ x ∈ xs, x < 18446744073709551616) : OkS (runS xs) := by
  have t := told_run xs
  have hc : (runS xs).n ≤ xs.length := by rw [t.count]; exact List.length_filter_le ..
  have key : ∀ ys zs : List Nat, (∀ x ∈ ys, x < 18446744073709551616) → (runS zs).lo < 18446744073709551616 ∧ (runS zs).hi < 18446744073709551616 → (runS (zs ++ ys)).lo < 18446744073709551616 ∧ (runS (zs ++ ys)).hi < 18446744073709551616 := by
    intro ys
    induction ys with
    | nil => intro zs _ h; rwa [List.append_nil]
    | cons y r ih =>
      intro zs hy h
      have hy0 := hy y (List.mem_cons_self ..)
      have := ih (zs ++ [y]) (fun x q => hy x (List.mem_cons_of_mem _ q)) (by
        rw [runS_snoc]
        cases hn : isN y with
        | true => rw [note_nan hn]; exact h
        | false =>
          rw [note_num hn]
          refine ⟨?_, ?_⟩
          · show loS _ _ < _
            unfold loS; split
            · exact hy0
            · exact h.1
          · show hiS _ _ < _
            unfold hiS; split
            · exact hy0
            · exact h.2)
      rwa [List.append_assoc] at this
  have := key xs [] hx ⟨by decide, by decide⟩
  exact ⟨by omega, this.1, this.2⟩
/-- The order of measures. -/
theorem perm_told {xs ys : List Nat} {s t : MS} (hs : Told xs s) (ht : Told ys t) (hp : xs.Perm ys) : s.n = t.n ∧ (s.n ≠ 0 → kz s.lo = kz t.lo ∧ kz s.hi = kz t.hi) := by
  have hn : s.n = t.n := by rw [hs.count, ht.count]; exact (hp.filter _).length_eq
  refine ⟨hn, fun h0 => ?_⟩
  obtain ⟨x, hx, nx, ex⟩ := hs.lo_in h0
  obtain ⟨y, hy, ny, ey⟩ := ht.lo_in (by omega)
  obtain ⟨x', hx', nx', ex'⟩ := hs.hi_in h0
  obtain ⟨y', hy', ny', ey'⟩ := ht.hi_in (by omega)
  have a := hs.least y (hp.mem_iff.2 hy) ny
  have b := ht.least x (hp.mem_iff.1 hx) nx
  have c := hs.most y' (hp.mem_iff.2 hy') ny'
  have d := ht.most x' (hp.mem_iff.1 hx') nx'
  rw [← ey] at a; rw [← ex] at b; rw [← ey'] at c; rw [← ex'] at d
  exact ⟨by omega, by omega⟩
/-- The first k of all, turned by m. -/
def turnL (l : List UInt64) (m k : Nat) : List Nat := (List.range k).map fun j => at_ l ((j + m) % l.length)
def numsL (l : List UInt64) (k : Nat) : List Nat := (List.range k).map fun j => at_ l j
theorem turnL_succ (l : List UInt64) (m k : Nat) : turnL l m (k + 1) = turnL l m k ++ [at_ l ((k + m) % l.length)] := by unfold turnL; rw [List.range_succ, List.map_append]; rfl
theorem numsL_succ (l : List UInt64) (k : Nat) : numsL l (k + 1) = numsL l k ++ [at_ l k] := by unfold numsL; rw [List.range_succ, List.map_append]; rfl
theorem turnL_get (l : List UInt64) (m k j : Nat) (h : j < (turnL l m k).length) : (turnL l m k)[j] = at_ l ((j + m) % l.length) := by simp [turnL]
theorem numsL_get (l : List UInt64) (k j : Nat) (h : j < (numsL l k).length) : (numsL l k)[j] = at_ l j := by simp [numsL]
theorem numsL_len (l : List UInt64) (k : Nat) : (numsL l k).length = k := by simp [numsL]
theorem turnL_len (l : List UInt64) (m k : Nat) : (turnL l m k).length = k := by simp [turnL]
theorem turn_perm (l : List UInt64) (m : Nat) (h : m < l.length) : (numsL l l.length).Perm (turnL l m l.length) := by
  have e : turnL l m l.length = (numsL l l.length).drop m ++ (numsL l l.length).take m := by
    apply List.ext_getElem
    · rw [turnL_len, List.length_append, List.length_drop, List.length_take, numsL_len]; omega
    · intro j h1 h2
      rw [turnL_get]
      have hj : j < l.length := by rw [turnL_len] at h1; exact h1
      by_cases c : j + m < l.length
      · rw [List.getElem_append_left (by rw [List.length_drop, numsL_len]; omega), List.getElem_drop, numsL_get, Nat.mod_eq_of_lt c, Nat.add_comm]
      · rw [List.getElem_append_right (by rw [List.length_drop, numsL_len]; omega), List.getElem_take, numsL_get, List.length_drop, numsL_len]
        rw [Nat.mod_eq_sub_mod (by omega), Nat.mod_eq_of_lt (by omega)]
        congr 1
        omega
  rw [e]
  have p := List.perm_append_comm (l₁ := (numsL l l.length).take m) (l₂ := (numsL l l.length).drop m)
  rwa [List.take_append_drop] at p
theorem at_all (l : List UInt64) (k : Nat) : (∀ x ∈ numsL l k, x < 18446744073709551616) ∧ ∀ m, ∀ x ∈ turnL l m k, x < 18446744073709551616 := by
  refine ⟨fun x hx => ?_, fun m x hx => ?_⟩
  · obtain ⟨j, _, rfl⟩ := List.mem_map.1 hx; exact at_lt _ _
  · obtain ⟨j, _, rfl⟩ := List.mem_map.1 hx; exact at_lt _ _
theorem run_nums_ok (l : List UInt64) (k : Nat) (h : k ≤ 1000000) : OkS (runS (numsL l k)) := run_ok _ (by unfold numsL; simpa using h) (at_all l k).1
theorem run_turn_ok (l : List UInt64) (m k : Nat) (h : k ≤ 1000000) : OkS (runS (turnL l m k)) := run_ok _ (by unfold turnL; simpa using h) ((at_all l k).2 m)
end Go.Proofs.Ytnhlfafdldpdgaa.Pol
