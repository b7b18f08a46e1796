import Derived.Test.YtbdfdfahpdilpaaArr
import Derived.Maps.Keyed
import Derived.Laws.IdiomRangeMap
/-! Maps of strings by ints, by hand: a block whose entries are a list's. -/
namespace Go.Proofs.Ytbdfdfahpdilpaa.Mp
open Go Go.RowKit Go.MapKept Go.ChangeMaps Go.Proofs.Ytbdfdfahpdilpaa.Arr
set_option linter.unusedVariables false
set_option linter.unusedSimpArgs false
abbrev En := Int × ByteArray × Nat
def ent (p : En) : MapEntry := ⟨.int .i64 p.1, .string p.2.1, p.2.2⟩
def ents (L : List En) : Array MapEntry := (L.map ent).toArray
def getM : List En → Int → Option ByteArray
  | [], _ => none
  | p :: r, k => if k = p.1 then some p.2.1 else getM r k
def findM : List En → Int → Nat → Option (Nat × ByteArray)
  | [], _, _ => none
  | p :: r, k, i => if k = p.1 then some (i, p.2.1) else findM r k (i + 1)
theorem find_get (k : Int) : ∀ (L : List En) (i : Nat), (findM L k i).map (·.2) = getM L k
  | [], _ => rfl
  | p :: r, i => by
    unfold findM getM
    by_cases h : k = p.1
    · rw [if_pos h, if_pos h]; rfl
    · rw [if_neg h, if_neg h]; exact find_get k r (i + 1)
theorem findNow_eq (k : Int) : ∀ (L : List En) (i : Nat), Instr.findNow (.int .i64) (.int .i64 k) (L.map ent) i = some ((findM L k i).map fun p => (p.1, .string p.2))
  | [], _ => rfl
  | p :: r, i => by
    have h1 : Instr.sameNow (.int .i64) (.int .i64 k) (ent p).key = some (k == p.1) := by simp [Instr.sameNow, ent]
    rw [List.map_cons, Instr.findNow, h1]
    unfold findM
    by_cases h : k = p.1
    · rw [if_pos h, beq_iff_eq.2 h]; rfl
    · rw [if_neg h, beq_eq_false_iff_ne.2 h]; exact findNow_eq k r (i + 1)
theorem find_at (k : Int) : ∀ (L : List En) (i j : Nat) (v : ByteArray), findM L k i = some (j, v) → ∃ b, i ≤ j ∧ L[j - i]? = some (k, v, b)
  | [], _, _, _, h => by cases h
  | p :: r, i, j, v, h => by
    unfold findM at h
    by_cases e : k = p.1
    · rw [if_pos e] at h
      cases h
      exact ⟨p.2.2, Nat.le_refl _, by rw [Nat.sub_self, e]; rfl⟩
    · rw [if_neg e] at h
      obtain ⟨b, h1, h2⟩ := find_at k r (i + 1) j v h
      refine ⟨b, by omega, ?_⟩
      rw [show j - i = (j - (i + 1)) + 1 by omega, List.getElem?_cons_succ]
      exact h2
theorem find_none (k : Int) : ∀ (L : List En) (i : Nat), findM L k i = none → ∀ p ∈ L, p.1 ≠ k
  | [], _, _, p, hp => by cases hp
  | q :: r, i, h, p, hp => by
    unfold findM at h
    by_cases e : k = q.1
    · rw [if_pos e] at h; cases h
    · rw [if_neg e] at h
      rcases List.mem_cons.1 hp with rfl | hp
      · exact fun e2 => e e2.symm
      · exact find_none k r (i + 1) h p hp
theorem get_none {k : Int} : ∀ {L : List En}, (∀ p ∈ L, p.1 ≠ k) → getM L k = none
  | [], _ => rfl
  | p :: r, h => by
    unfold getM
    rw [if_neg (fun e => h p (by simp) e.symm)]
    exact get_none (fun q hq => h q (by simp [hq]))
theorem get_append (k : Int) (v : ByteArray) (c : Nat) (j : Int) : ∀ (L : List En), getM (L ++ [(k, v, c)]) j = match getM L j with | some x => some x | none => if j = k then some v else none
  | [] => by simp [getM]
  | p :: r => by
    rw [List.cons_append]
    unfold getM
    by_cases h : j = p.1
    · simp [h]
    · rw [if_neg h, if_neg h]; exact get_append k v c j r
/-- What a map's list is to be: no key twice, no stamp twice, all stamps below the clock. -/
structure MI (L : List En) (c : Nat) : Prop where
  keys : (L.map (·.1)).Nodup
  borns : (L.map (·.2.2)).Nodup
  below : ∀ p ∈ L, p.2.2 < c
theorem MI.nil (c : Nat) : MI [] c := ⟨List.nodup_nil, List.nodup_nil, fun _ h => by cases h⟩
theorem MI.push {L : List En} {c : Nat} (h : MI L c) {k : Int} (hk : ∀ p ∈ L, p.1 ≠ k) (v : ByteArray) : MI (L ++ [(k, v, c)]) (c + 1) := by
  refine ⟨?_, ?_, fun p hp => ?_⟩
  · rw [List.map_append]
    refine List.nodup_append.2 ⟨h.keys, by simp, ?_⟩
    intro a ha b hb
    obtain ⟨p, hp, rfl⟩ := List.mem_map.1 ha
    simp at hb
    subst hb
    exact hk p hp
  · rw [List.map_append]
    refine List.nodup_append.2 ⟨h.borns, by simp, ?_⟩
    intro a ha b hb
    obtain ⟨p, hp, rfl⟩ := List.mem_map.1 ha
    simp at hb
    subst hb
    have := h.below p hp
    omega
  · rcases List.mem_append.1 hp with hp | hp
    · have := h.below p hp; omega
    · simp at hp; subst hp; simp
theorem map_modify_same {α β : Type} (f : α → β) (g : α → α) : ∀ (l : List α) (i : Nat) (x : α), l[i]? = some x → f (g x) = f x → (l.modify i g).map f = l.map f
  | [], i, x, h, _ => by simp at h
  | y :: r, 0, x, h, e => by simp at h; subst h; simp [e]
  | y :: r, i + 1, x, h, e => by simp at h; simp [map_modify_same f g r i x h e]
theorem MI.set {L : List En} {c : Nat} (h : MI L c) {i : Nat} {k : Int} {v0 : ByteArray} {b : Nat} (hi : L[i]? = some (k, v0, b)) (v : ByteArray) : MI (L.modify i fun p => (k, v, p.2.2)) c := by
  have h1 := map_modify_same (fun p : En => p.1) (fun p => (k, v, p.2.2)) L i _ hi rfl
  have h2 := map_modify_same (fun p : En => p.2.2) (fun p => (k, v, p.2.2)) L i _ hi rfl
  refine ⟨by rw [h1]; exact h.keys, by rw [h2]; exact h.borns, fun p hp => ?_⟩
  have : p.2.2 ∈ (L.modify i fun p => (k, v, p.2.2)).map (·.2.2) := List.mem_map.2 ⟨p, hp, rfl⟩
  rw [h2] at this
  obtain ⟨q, hq, e⟩ := List.mem_map.1 this
  rw [← e]
  exact h.below q hq
theorem get_modify (k : Int) (v : ByteArray) (j : Int) : ∀ (L : List En) (i : Nat) (x : ByteArray), findM L k 0 = some (i, x) → getM (L.modify i fun p => (k, v, p.2.2)) j = if j = k then some v else getM L j := by
  have gen : ∀ (L : List En) (s i : Nat) (x : ByteArray), findM L k s = some (s + i, x) → getM (L.modify i fun p => (k, v, p.2.2)) j = if j = k then some v else getM L j := by
    intro L
    induction L with
    | nil => intro s i x h; cases h
    | cons p r ih =>
      intro s i x h
      unfold findM at h
      by_cases e : k = p.1
      · rw [if_pos e] at h
        have hi : i = 0 := by injection h with h; injection h with h1 h2; omega
        subst hi
        rw [List.modify_zero_cons]
        unfold getM
        simp only
        by_cases ej : j = k
        · rw [if_pos ej, if_pos ej]
        · rw [if_neg ej, if_neg ej, if_neg (by rw [← e]; exact ej)]
      · rw [if_neg e] at h
        obtain ⟨b, h1, _⟩ := find_at k r (s + 1) (s + i) x h
        obtain ⟨i', rfl⟩ : ∃ i', i = i' + 1 := ⟨i - 1, by omega⟩
        rw [show s + (i' + 1) = (s + 1) + i' by omega] at h
        have := ih (s + 1) i' x h
        rw [List.modify_succ_cons]
        unfold getM
        by_cases ej : j = p.1
        · rw [if_pos ej, if_pos ej, if_neg (by rw [ej]; exact fun e2 => e e2.symm)]
        · rw [if_neg ej, if_neg ej]; exact this
  intro L i x h
  exact gen L 0 i x (by rw [Nat.zero_add]; exact h)
theorem MI.erase {L : List En} {c : Nat} (h : MI L c) (i : Nat) : MI (L.eraseIdx i) c :=
  ⟨h.keys.sublist ((List.eraseIdx_sublist L i).map _), h.borns.sublist ((List.eraseIdx_sublist L i).map _), fun p hp => h.below p (List.mem_of_mem_eraseIdx hp)⟩
theorem get_mem : ∀ {L : List En} {k : Int} {v : ByteArray}, getM L k = some v → ∃ b, (k, v, b) ∈ L
  | [], _, _, h => by cases h
  | p :: r, k, v, h => by
    unfold getM at h
    by_cases e : k = p.1
    · rw [if_pos e] at h
      cases h
      exact ⟨p.2.2, by rw [e]; simp⟩
    · rw [if_neg e] at h
      obtain ⟨b, hb⟩ := get_mem h
      exact ⟨b, by simp [hb]⟩
theorem get_of_mem : ∀ {L : List En} {c : Nat} {k : Int} {v : ByteArray} {b : Nat}, (L.map (·.1)).Nodup → (k, v, b) ∈ L → getM L k = some v
  | p :: r, c, k, v, b, hn, h => by
    have hn' := List.nodup_cons.1 hn
    unfold getM
    rcases List.mem_cons.1 h with rfl | h
    · rw [if_pos rfl]
    · rw [if_neg]
      · exact get_of_mem (c := c) hn'.2 h
      · intro e
        exact hn'.1 (List.mem_map.2 ⟨(k, v, b), h, e⟩)
theorem get_erase (k : Int) (j : Int) : ∀ (L : List En) (i : Nat) (x : ByteArray), (L.map (·.1)).Nodup → findM L k 0 = some (i, x) → getM (L.eraseIdx i) j = if j = k then none else getM L j := by
  have gen : ∀ (L : List En) (s i : Nat) (x : ByteArray), (L.map (·.1)).Nodup → findM L k s = some (s + i, x) → getM (L.eraseIdx i) j = if j = k then none else getM L j := by
    intro L
    induction L with
    | nil => intro s i x _ h; cases h
    | cons p r ih =>
      intro s i x hn h
      have hn' := List.nodup_cons.1 hn
      unfold findM at h
      by_cases e : k = p.1
      · rw [if_pos e] at h
        have hi : i = 0 := by injection h with h; injection h with h1 h2; omega
        subst hi
        rw [List.eraseIdx_zero, List.tail_cons]
        conv => rhs; unfold getM
        by_cases ej : j = k
        · rw [if_pos ej]
          refine get_none (fun q hq e2 => hn'.1 ?_)
          exact List.mem_map.2 ⟨q, hq, e2.trans (ej.trans e)⟩
        · rw [if_neg ej, if_neg (by rw [← e]; exact ej)]
      · rw [if_neg e] at h
        obtain ⟨b, h1, _⟩ := find_at k r (s + 1) (s + i) x h
        obtain ⟨i', rfl⟩ : ∃ i', i = i' + 1 := ⟨i - 1, by omega⟩
        rw [show s + (i' + 1) = (s + 1) + i' by omega] at h
        have := ih (s + 1) i' x hn'.2 h
        rw [List.eraseIdx_cons_succ]
        unfold getM
        by_cases ej : j = p.1
        · rw [if_pos ej, if_pos ej, if_neg (by rw [ej]; exact fun e2 => e e2.symm)]
        · rw [if_neg ej, if_neg ej]; exact this
  intro L i x hn h
  exact gen L 0 i x hn (by rw [Nat.zero_add]; exact h)
/-- Block m is a map in which k has f k. -/
def MP (w : World) (m : Nat) (f : Int → Option ByteArray) : Prop := ∃ L c, w.heap[m]? = some (.map (ents L) c) ∧ MI L c ∧ ∀ k, getM L k = f k
theorem MP.lt {w : World} {m : Nat} {f : Int → Option ByteArray} (h : MP w m f) : m < w.heap.size := by
  obtain ⟨L, c, h, _⟩ := h
  rcases Nat.lt_or_ge m w.heap.size with h1 | h1
  · exact h1
  · simp [Array.getElem?_eq_none h1] at h
theorem MP.same {w w' : World} {m : Nat} {f : Int → Option ByteArray} (h : MP w m f) (e : w'.heap[m]? = w.heap[m]?) : MP w' m f := by
  obtain ⟨L, c, h1, h2, h3⟩ := h
  exact ⟨L, c, e.trans h1, h2, h3⟩
theorem MP.made (w : World) : MP (w.alloc (.map #[] 0)) w.heap.size (fun _ => none) := ⟨[], 0, heap_alloc_new w _, MI.nil 0, fun _ => rfl⟩
section
variable {P : Program} {w : World} {t k e : TypeId} {m : Nat} {f : Int → Option ByteArray}
theorem checkKey_int (hk : P.underlying k = some (.int .i64)) (w : World) (em : Bool) (i : Int) : (Instr.checkKey em 10000 k (.int .i64 i)).run P w = .ok () w :=
  run_checkKey hk (by simp [IsKey]) em 9999
theorem run_lookup_mp (ht : P.underlying t = some (.map k e)) (hk : P.underlying k = some (.int .i64)) (hz : ∀ w, (zeroValue e).run P w = .ok (.string ⟨#[]⟩) w) (h : MP w m f) (i : Int) :
    (Instr.lookup t (.map (some m)) (.int .i64 i) true).run P w = .ok (.tuple #[.string ((f i).getD ⟨#[]⟩), .bool (f i).isSome]) w := by
  obtain ⟨L, c, h1, h2, h3⟩ := h
  have hf : (Instr.findKey k (.int .i64 i) (L.map ent)).run P w = .ok ((findM L i 0).map fun p => (p.1, .string p.2)) w := by
    simp [Instr.findKey, run_underlying hk, findNow_eq]
  have hg := find_get i L 0
  rw [h3] at hg
  cases hq : findM L i 0 with
  | none =>
    rw [hq] at hf hg
    have : f i = none := hg.symm
    simp [Instr.lookup, run_underlying ht, MapKept.run_getObj_map h1, checkKey_int hk, ents, hf, hz, this, Result.andThen]
  | some p =>
    rw [hq] at hf hg
    have : f i = some p.2 := hg.symm
    simp [Instr.lookup, run_underlying ht, MapKept.run_getObj_map h1, checkKey_int hk, ents, hf, hz, this, Result.andThen]
theorem setBlock_at (w : World) (m : Nat) (o : Obj) (h : m < w.heap.size) : (setBlock w m o).heap[m]? = some o := by
  show (w.heap.setIfInBounds m o)[m]? = _
  simp [h]
theorem setBlock_other (w : World) (m : Nat) (o : Obj) {j : Nat} (h : j ≠ m) : (setBlock w m o).heap[j]? = w.heap[j]? := by
  show (w.heap.setIfInBounds m o)[j]? = _
  simp [Ne.symm h]
theorem setBlock_size (w : World) (m : Nat) (o : Obj) : (setBlock w m o).heap.size = w.heap.size := by
  show (w.heap.setIfInBounds m o).size = _
  simp
theorem run_update_mp (ht : P.underlying t = some (.map k e)) (hk : P.underlying k = some (.int .i64)) (h : MP w m f) (i : Int) (s : ByteArray) :
    ∃ o, (Instr.mapUpdate t (.map (some m)) (.int .i64 i) (.string s)).run P w = .ok () (setBlock w m o) ∧ MP (setBlock w m o) m (fun j => if j = i then some s else f j) := by
  have hlt := h.lt
  obtain ⟨L, c, h1, h2, h3⟩ := h
  have hf : (Instr.findKey k (.int .i64 i) (L.map ent)).run P w = .ok ((findM L i 0).map fun p => (p.1, .string p.2)) w := by
    simp [Instr.findKey, run_underlying hk, findNow_eq]
  cases hq : findM L i 0 with
  | none =>
    rw [hq] at hf
    have hn := find_none i L 0 hq
    refine ⟨.map (ents (L ++ [(i, s, c)])) (c + 1), ?_, L ++ [(i, s, c)], c + 1, setBlock_at w m _ hlt, h2.push hn s, fun j => ?_⟩
    · have e1 : (ents L).push (ent (i, s, c)) = ents (L ++ [(i, s, c)]) := by simp [ents]
      have e2 : (⟨.int .i64 i, .string s, c⟩ : MapEntry) = ent (i, s, c) := rfl
      have hl : (ents L).toList = L.map ent := by simp [ents]
      simp only [Instr.mapUpdate, Sem.run_bind, run_underlying ht, MapKept.run_getObj_map h1, checkKey_int hk, hl, hf, MapKept.run_setObj_map _ h1, Result.andThen, Option.map_none, e2, e1]
      rfl
    · rw [get_append, h3]
      show _ = if j = i then some s else f j
      by_cases ej : j = i
      · subst ej
        rw [← h3, get_none hn]
      · rw [if_neg ej, if_neg ej]
        cases f j <;> rfl
  | some p =>
    obtain ⟨a, x⟩ := p
    rw [hq] at hf
    obtain ⟨b, _, hb⟩ := find_at i L 0 a x hq
    rw [Nat.sub_zero] at hb
    refine ⟨.map (ents (L.modify a fun p => (i, s, p.2.2))) c, ?_, _, c, setBlock_at w m _ hlt, h2.set hb s, fun j => ?_⟩
    · have hl : (ents L).toList = L.map ent := by simp [ents]
      have ha : (ents L)[a]? = some (ent (i, x, b)) := by simp [ents, hb]
      have hks : (Instr.keyThatStays (.int .i64 i) (.int .i64 i)).run P w = .ok (.int .i64 i) w := by
        have e0 : Instr.sameBits 10000 (.int .i64 i) (.int .i64 i) = true := by simp [Instr.sameBits]
        unfold Instr.keyThatStays
        rw [e0]
        rfl
      have e1 : (ents L).modify a (fun e => { e with key := .int .i64 i, val := .string s }) = ents (L.modify a fun p => (i, s, p.2.2)) := by
        apply Array.toList_inj.1
        rw [Array.toList_modify]
        simp only [ents]
        apply List.ext_getElem?
        intro q
        simp only [List.getElem?_modify, List.getElem?_map]
        by_cases hqa : a = q
        · subst hqa; simp [hb, ent]
        · simp [hqa]
      have ek : (ent (i, x, b)).key = .int .i64 i := rfl
      simp only [Instr.mapUpdate, Sem.run_bind, run_underlying ht, MapKept.run_getObj_map h1, checkKey_int hk, hl, hf, Result.andThen, Option.map_some, ha, ek, Option.getD_some, hks, MapKept.run_setObj_map _ h1, e1]
      rfl
    · rw [get_modify i s j L a x hq, h3]
theorem run_clear_mp (ht : P.underlying t = some (.map k e)) (h : MP w m f) (ty : TypeId) :
    ∃ o, (Builtin.clear_ #[t] ty #[.map (some m)]).run P w = .ok (.tuple #[]) (setBlock w m o) ∧ MP (setBlock w m o) m (fun _ => none) := by
  have hlt := h.lt
  obtain ⟨L, c, h1, h2, h3⟩ := h
  refine ⟨.map #[] c, ?_, [], c, setBlock_at w m _ hlt, MI.nil c, fun _ => rfl⟩
  simp [Builtin.clear_, run_underlying ht, MapKept.run_getObj_map h1, MapKept.run_setObj_map _ h1, Result.andThen]
  rfl
theorem run_delete_mp (ht : P.underlying t = some (.map k e)) (hk : P.underlying k = some (.int .i64)) (h : MP w m f) (i : Int) (ty : TypeId) :
    ∃ o, (Builtin.delete_ #[t, k] ty #[.map (some m), .int .i64 i]).run P w = .ok (.tuple #[]) (setBlock w m o) ∧ MP (setBlock w m o) m (fun j => if j = i then none else f j) := by
  have hlt := h.lt
  obtain ⟨L, c, h1, h2, h3⟩ := h
  have hf : (Instr.findKey k (.int .i64 i) (L.map ent)).run P w = .ok ((findM L i 0).map fun p => (p.1, .string p.2)) w := by
    simp [Instr.findKey, run_underlying hk, findNow_eq]
  have hl : (ents L).toList = L.map ent := by simp [ents]
  cases hq : findM L i 0 with
  | none =>
    rw [hq] at hf
    have hn := find_none i L 0 hq
    refine ⟨.map (ents L) c, ?_, L, c, setBlock_at w m _ hlt, h2, fun j => ?_⟩
    · simp only [Builtin.delete_, List.getElem?_toArray, List.getElem?_cons_zero, List.getElem?_cons_succ, Sem.run_bind, run_underlying ht, MapKept.run_getObj_map h1, checkKey_int hk, hl, hf, MapKept.run_setObj_map _ h1, Result.andThen, Option.map_none]
      rfl
    · show _ = if j = i then none else f j
      by_cases ej : j = i
      · subst ej; rw [if_pos rfl, get_none hn]
      · rw [if_neg ej, h3]
  | some p =>
    obtain ⟨a, x⟩ := p
    rw [hq] at hf
    refine ⟨.map (ents (L.eraseIdx a)) c, ?_, L.eraseIdx a, c, setBlock_at w m _ hlt, h2.erase a, fun j => ?_⟩
    · have e1 : (ents L).eraseIdxIfInBounds a = ents (L.eraseIdx a) := by
        apply Array.toList_inj.1
        rw [Array.toList_eraseIdxIfInBounds]
        simp [ents, map_eraseIdx]
      simp only [Builtin.delete_, List.getElem?_toArray, List.getElem?_cons_zero, List.getElem?_cons_succ, Sem.run_bind, run_underlying ht, MapKept.run_getObj_map h1, checkKey_int hk, hl, hf, MapKept.run_setObj_map _ h1, Result.andThen, Option.map_some, e1]
      rfl
    · rw [get_erase i j L a x h2.keys hq, h3]
end
end Go.Proofs.Ytbdfdfahpdilpaa.Mp
