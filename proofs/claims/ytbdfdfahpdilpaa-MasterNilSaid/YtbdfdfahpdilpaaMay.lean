import Derived.Test.YtbdfdfahpdilpaaCol
import Derived.Test.YtbdfdfahpdilpaaD4
import Derived.Test.YtbdfdfahpdilpaaD6
/-! Arrays of eight, and eight rows of strings. -/
namespace Go.Proofs.Ytbdfdfahpdilpaa.Dk
open Go Go.RowKit Go.ChangeMaps Go.Proofs.Ytbdfdfahpdilpaa.Arr Go.Proofs.Ytbdfdfahpdilpaa.Mp Go.Proofs.Ytbdfdfahpdilpaa.Ow Go.Proofs.YtbdfdfahpdilpaaW.PrintWords Go.Proofs.YtbdfdfahpdilpaaW.PrintLast Go.Proofs.YtbdfdfahpdilpaaW.PrintMore
set_option linter.unusedVariables false
set_option linter.unusedSimpArgs false
def arrN (n : Nat) (f : Nat → Value) : Array Value := ((List.range n).map f).toArray
theorem arrN_get {n : Nat} {f : Nat → Value} {i : Nat} (h : i < n) : (arrN n f)[i]? = some (f i) := by
  unfold arrN
  simp [h]
theorem arrN_set {n : Nat} {f : Nat → Value} {i : Nat} (v : Value) : (arrN n f).setIfInBounds i v = arrN n (fun j => if j = i then v else f j) := by
  unfold arrN
  apply Array.toList_inj.1
  apply List.ext_getElem?
  intro j
  simp only [Array.toList_setIfInBounds, List.getElem?_set, List.getElem?_map, List.length_map, List.length_range]
  by_cases e : i = j
  · subst e
    by_cases h : i < n
    · simp [h]
    · simp [h]
  · have e2 : ¬ j = i := fun h => e h.symm
    simp only [if_neg e]
    cases h : (List.range n)[j]? with
    | none => rfl
    | some x =>
      have hx : x = j := by
        rw [List.getElem?_eq_some_iff] at h
        obtain ⟨_, h⟩ := h
        simpa using h.symm
      subst hx
      simp [e2]
section
variable {c : Nat → Nat} {w w' : World} {x y g : Nat} {d : DS}
/-- A store into a block of another colour. -/
theorem DK.stored (h : DK w (Col c y) g d) {b : Nat} (hb : c b = x) (hne : x ≠ y) (i : Nat) (v : Value) : DK (w.setCell ⟨b, i, none⟩ v) (Col c y) g d :=
  h.kept ((FS.refl (Col c x) w).setCell (p := ⟨b, i, none⟩) (.inl hb) v) fun k hk e => hne (e.symm.trans hk)
theorem Ow.stored {e : TypeId} {sz : Nat} {v : Value} {n : Nat} {xs : List Value} (h : Ow w (Col c y) e sz v n xs) {b : Nat} (hb : c b = x) (hne : x ≠ y) (i : Nat) (u : Value) : Ow (w.setCell ⟨b, i, none⟩ u) (Col c y) e sz v n xs :=
  h.kept ((FS.refl (Col c x) w).setCell (p := ⟨b, i, none⟩) (.inl hb) u) fun k hk e => hne (e.symm.trans hk)
theorem blk_stored {b b' : Nat} {o : Obj} (h : w.heap[b]? = some o) (hne : b ≠ b') (i : Nat) (u : Value) : (w.setCell ⟨b', i, none⟩ u).heap[b]? = some o := (Below.heap_setCell w ⟨b', i, none⟩ u b hne).trans h
theorem set_arr {n : Nat} {b : Nat} {f : Nat → Value} {t : TypeId} {fr : Nat × Nat} (h : w.heap[b]? = some (.cells (arrN n f) t fr)) (i : Nat) (u : Value) : (w.setCell ⟨b, i, none⟩ u).heap[b]? = some (.cells (arrN n (fun j => if j = i then u else f j)) t fr) := by
  simp only [World.setCell]
  rw [Array.getElem?_modify, if_pos rfl, h, ← arrN_set]
  rfl
/-- Block mb: n rows of strings, row i of colour 3 + i. -/
structure Rows8 (w : World) (c : Nat → Nat) (T : TypeId) (n mb : Nat) (vs : Nat → Value) (xs : Nat → List ByteArray) : Prop where
  blk : w.heap[mb]? = some (.cells (arrN n vs) T (0, 0))
  col : c mb = 2
  row : ∀ i, i < n → Ow w (Col c (3 + i)) TS 1 (vs i) (xs i).length ((xs i).map .string)
theorem Rows8.below {T n mb : Nat} {vs : Nat → Value} {xs : Nat → List ByteArray} (h : Rows8 w c T n mb vs xs) (hb : Below w.heap.size w w') : Rows8 w' c T n mb vs xs :=
  ⟨blk_below h.blk hb, h.col, fun i hi => (h.row i hi).same fun k hk => hb.block k ((h.row i hi).own.lt k hk).2⟩
theorem Rows8.lt {T n mb : Nat} {vs : Nat → Value} {xs : Nat → List ByteArray} (h : Rows8 w c T n mb vs xs) : mb < w.heap.size := blk_lt h.blk
theorem Rows8.paint {T n mb : Nat} {vs : Nat → Value} {xs : Nat → List ByteArray} (h : Rows8 w c T n mb vs xs) (x : Nat) : Rows8 w (Dk.paint c w.heap.size x) T n mb vs xs :=
  ⟨h.blk, (paint_old h.lt).trans h.col, fun i hi => Ow.paint (h.row i hi) x⟩
theorem Rows8.apart {T n mb : Nat} {vs : Nat → Value} {xs : Nat → List ByteArray} (h : Rows8 w c T n mb vs xs) (hf : FS (Col (Dk.paint c w.heap.size x) x) w w') (hx : x < 2) : Rows8 w' (Dk.paint c w.heap.size x) T n mb vs xs :=
  ⟨(blk_apart h.blk h.col hf (by omega)).1, (blk_apart h.blk h.col hf (by omega)).2, fun i hi => Ow.apart (h.row i hi) hf (by omega)⟩
theorem Rows8.stored {T n mb : Nat} {vs : Nat → Value} {xs : Nat → List ByteArray} (h : Rows8 w c T n mb vs xs) {b : Nat} (hb : c b = 2) (hne : b ≠ mb) (i : Nat) (u : Value) : Rows8 (w.setCell ⟨b, i, none⟩ u) c T n mb vs xs :=
  ⟨blk_stored h.blk (fun e => hne e.symm) i u, h.col, fun j hj => Ow.stored (h.row j hj) hb (by omega) i u⟩
/-- Two strings more in row i. -/
theorem Rows8.push {T n mb : Nat} {vs : Nat → Value} {xs : Nat → List ByteArray} (h : Rows8 w c T n mb vs xs) (i : Nat) (hi : i < n) (hl : (xs i).length ≤ 1000000) (s1 s2 : ByteArray) {nb : Nat} (hnb : w.heap[nb]? = some (.cells #[.string s1, .string s2] TS (0, 0))) (ty : TypeId) :
    ∃ v' w', (Builtin.append_ #[37, 37] ty #[vs i, .slice (some ⟨nb, 0, none⟩) 2 2]).run Try.prog w = .ok v' w' ∧ FS (Col (Dk.paint c w.heap.size (3 + i)) (3 + i)) w w' ∧ (∃ g' n' c', v' = .slice (some ⟨g', 0, none⟩) n' c') ∧ w'.heap[mb]? = some (.cells (arrN n vs) T (0, 0)) ∧
      Rows8 (w'.setCell ⟨mb, i, none⟩ v') (Dk.paint c w.heap.size (3 + i)) T n mb (fun j => if j = i then v' else vs j) (fun j => if j = i then xs i ++ [s1, s2] else xs j) := by
  obtain ⟨i0, hi0, h2⟩ := Option.map_eq_some_iff.1 infoS
  have hz : i0.zero = some (.string ⟨#[]⟩) := congrArg Prod.fst h2
  have hs : i0.size = 1 := congrArg (fun p => p.2.1) h2
  have hb : i0.bytes = 16 := congrArg (fun p => p.2.2) h2
  obtain ⟨v', w', hr, ho, hg, _, g', c', hv⟩ := run_append_ow (P := Try.prog) (ty := ty) 37 TS i0 _ 1 16 (by kernel_rfl) hi0 hz hs hb rfl (by decide) (vs i) (xs i).length _ (Ow.paint (h.row i hi) (3 + i)) ⟨nb, 0, none⟩ 2 2 [.string s1, .string s2] rfl (fun j u hj => by
    match j with
    | 0 => exact (blk_cell hnb 0).trans (by simpa using hj)
    | 1 => exact (blk_cell hnb 1).trans (by simpa using hj)
    | j + 2 => simp at hj) (fun u hu => by
    rcases List.mem_cons.1 hu with rfl | hu
    · rfl
    · rcases List.mem_cons.1 hu with rfl | hu
      · rfl
      · cases hu) (by simp only [maxLen]; omega) (by omega) (by decide)
  have hf : FS (Col (Dk.paint c w.heap.size (3 + i)) (3 + i)) w w' := (FS.refl _ w).grown hg (fun k hk => .inl ((Ow.paint (h.row i hi) (3 + i)).mem k hk))
  have hm := blk_apart h.blk h.col hf (by omega)
  refine ⟨v', w', hr, hf, ⟨g', _, c', hv⟩, hm.1, set_arr hm.1 i v', hm.2, fun j hj => ?_⟩
  by_cases e : j = i
  · subst e
    simp only [if_pos rfl]
    have h3 : Ow w' (Col (Dk.paint c w.heap.size (3 + j)) (3 + j)) TS 1 v' (xs j ++ [s1, s2]).length ((xs j ++ [s1, s2]).map .string) := by
      rw [List.length_append, List.map_append]
      exact ho.mono fun k _ hk => hk.elim id (fun e => by subst e; exact paint_new (Nat.le_refl _))
    exact Ow.stored h3 hm.2 (by omega) j v'
  · simp only [if_neg e]
    exact Ow.stored (Ow.apart (h.row j hj) hf (by omega)) hm.2 (by omega) i v'
end
/-- 'append' in a region that draws, its run known. -/
theorem ap_ {P : Program} {ops : Array Oper} {Q : Exit → Act → World → Prop} {oi : Oper} {N : Option Tmp} {a : Act} {w w1 : World} {v : Value} {K : Act → World → Prop} (s x : Operand) (t : TypeId) (hw : Region.wanted oi (yielded ops a.tmps) = true) (hN : oi.dst = N)
    (ho : oi.op = .call { callee := .builtin .append, args := #[s, x], argTypes := #[t, t] }) (v1 v2 : Value) (hs : a.eval s = v1) (hx : a.eval x = v2) (hr : (Builtin.append_ #[t, t] oi.type #[v1, v2]).run P w = .ok v w1)
    (h : K (a.put N v) w1) : if Region.wanted oi (yielded ops a.tmps) = true then Oper.wp P oi a w K Q else K (a.put N undef) w := by
  refine value_ hw hN ?_ h
  unfold execOp
  simp only [ho, resolve, invoke, builtin, Sem.run_bind, Sem.run_pure, Result.andThen_ok, List.map_toArray, List.map_cons, List.map_nil, hs, hx, hr]
end Go.Proofs.Ytbdfdfahpdilpaa.Dk
