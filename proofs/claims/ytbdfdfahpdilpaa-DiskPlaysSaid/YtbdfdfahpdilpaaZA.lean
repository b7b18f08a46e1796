import Derived.Test.YtbdfdfahpdilpaaWWords
import Derived.Below
import Derived.WalkKit
import Derived.KernelRfl
import Derived.Laws.Rows
import Derived.Lib.BufferWrite
import Derived.Lib.SlBytesRow
import Derived.Laws.BytesArg
import Derived.Deep.Draws
import Derived.Maps.Keyed
import Derived.Laws.IdiomRangeMap
import Derived.Laws.AppendOwn
import Derived.Test.YtbdfdfahpdilpaaProg
import Derived.Test.YtbdfdfahpdilpaaWMore
import Derived.Test.YtbdfdfahpdilpaaWLast
import Derived.Deep.QuietTactic
import Derived.Deep.RegionLaw
import Derived.BigQuiet
import Derived.RegionTactic
import Derived.Outline
import Derived.Lib.Hide
import Derived.Deep.CutBlock
import Derived.Deep.DeepCutAuto
/-! Arrays of bytes: a block whose cells are the bytes of a string. -/
namespace Go.Proofs.Ytbdfdfahpdilpaa.Arr
open Go Go.RowKit Go.Proofs.YtbdfdfahpdilpaaW.PrintWords
/-- The cells of a string's bytes. -/
def row (s : ByteArray) : Array Value := (Lib.byteCells s.data.toList).toArray
theorem row_size (s : ByteArray) : (row s).size = s.size := by simp [row, Lib.byteCells_length]
/-- n noughts. -/
def noughts (n : Nat) : ByteArray := ⟨(List.replicate n (0 : UInt8)).toArray⟩
theorem noughts_size (n : Nat) : (noughts n).size = n := by simp [noughts, ByteArray.size]
theorem row_noughts (n : Nat) : row (noughts n) = Array.replicate n (.int .u8 0) := by
  simp [row, noughts, Lib.byteCells]
/-- s put into t at o. -/
def splice (t : ByteArray) (o : Nat) (s : ByteArray) : ByteArray := ⟨(t.data.toList.take o ++ s.data.toList ++ t.data.toList.drop (o + s.size)).toArray⟩
theorem splice_size (t : ByteArray) (o : Nat) (s : ByteArray) (h : o + s.size ≤ t.size) : (splice t o s).size = t.size := by
  have e1 : t.data.toList.length = t.size := by simp
  have e2 : s.data.toList.length = s.size := by simp
  have e : (splice t o s).size = (t.data.toList.take o ++ s.data.toList ++ t.data.toList.drop (o + s.size)).length := List.size_toArray ..
  rw [e]
  simp only [List.length_append, List.length_take, List.length_drop, e1, e2]
  omega
theorem row_cell (s : ByteArray) (i : Nat) (h : i < s.size) : (row s)[i]? = some (.int .u8 (s[i].toNat : Int)) := by
  have h1 : i < s.data.toList.length := by simpa using h
  simp only [row, Lib.byteCells, List.getElem?_toArray, List.getElem?_map, List.getElem?_eq_getElem h1, Option.map_some]
  rfl
theorem bytes_of_row {w : World} {b : Nat} {T : TypeId} {s : ByteArray} {fr : Nat × Nat} (h : w.heap[b]? = some (.cells (row s) T fr)) : Lib.Bytes w b 0 s := by
  intro i hi
  rw [Nat.zero_add, cell_of_row w b i _ T fr h]
  exact row_cell s i hi
/-- 'string(b[j:j+n])'. -/
theorem conv_row {P : Program} {w : World} {b : Nat} {T : TypeId} {s : ByteArray} {fr : Nat × Nat} (h : w.heap[b]? = some (.cells (row s) T fr)) (src e dst : TypeId) (hs : P.underlying src = some (.slice e)) (he : P.underlying e = some (.int .u8)) (hd : P.underlying dst = some .string) (j n cap : Nat) (hj : j + n ≤ s.size) :
    (convert src dst (.slice (some ⟨b, j, none⟩) n cap)).run P w = .ok (.string (s.extract j (j + n))) w := by
  have h1 := Lib.run_convert_window (P := P) w src e dst hs he hd b 0 s (bytes_of_row h) j n cap hj
  rwa [Nat.zero_add] at h1
theorem conv_whole {P : Program} {w : World} {b : Nat} {T : TypeId} {s : ByteArray} {fr : Nat × Nat} (h : w.heap[b]? = some (.cells (row s) T fr)) (src e dst : TypeId) (hs : P.underlying src = some (.slice e)) (he : P.underlying e = some (.int .u8)) (hd : P.underlying dst = some .string) (n cap : Nat) (hn : s.size = n) :
    (convert src dst (.slice (some ⟨b, 0, none⟩) n cap)).run P w = .ok (.string s) w := by
  subst hn
  exact Lib.run_convert_whole (P := P) w src e dst hs he hd b 0 s (bytes_of_row h) cap
/-- 'copy(b[o:], s)', s a string that fits. -/
theorem copy_row {P : Program} {w : World} {g : Nat} {T : TypeId} {t : ByteArray} (h : w.heap[g]? = some (.cells (row t) T (0, 0))) (dT sT ty elem : TypeId) (hu : P.underlying dT = some (.slice elem)) (hs : (P.info? elem).map (·.size) = some 1) (o dLen dCap : Nat) (s : ByteArray) (hle : s.size ≤ dLen) (hfit : o + s.size ≤ t.size) :
    (Builtin.copy_ #[dT, sT] ty #[.slice (some ⟨g, o, none⟩) dLen dCap, .string s]).run P w = .ok (goInt s.size) (w.setRow g (row (splice t o s))) := by
  rw [Lib.run_copy_row_string w dT sT ty elem g o dLen dCap s (row t) T hu hs h hle (by rw [row_size]; exact hfit)]
  congr 2
  simp [row, splice, Lib.byteCells, List.map_append, List.map_take, List.map_drop]
theorem set_row {w : World} {g : Nat} {T : TypeId} {cs : Array Value} {fr : Nat × Nat} (h : w.heap[g]? = some (.cells cs T fr)) (cs' : Array Value) : (w.setRow g cs').heap[g]? = some (.cells cs' T fr) := setRow_heap w g cs cs' T fr h
theorem below_setRow {w0 w : World} {B g : Nat} (h : Below B w0 w) (hg : B ≤ g) (cs : Array Value) : Below B w0 (w.setRow g cs) :=
  h.trans ⟨rfl, rfl, rfl, by simp, fun k hk => setRow_other w g k cs (by omega)⟩
/-- Any operation whose run is known. -/
theorem event {P : Program} {ops : Array Oper} {rest : List Oper} {o : Oper} {a : Act} {Q : Exit → Act → World → Prop} {W w1 : World} {v : Value} (hgd : o.guard = none) (hrun : (execOp a.eval o).run P W = .ok (.value v) w1) (h : wpList P ops Q rest (a.put o.dst v) w1) : wpList P ops Q (o :: rest) a W := by
  refine wpList_plain hgd fun K hK => ?_
  unfold Oper.wp
  rw [hrun]
  exact hK _ _ h
/-- A new block, its world known by the facts alone. -/
theorem ev_new {P : Program} {ops : Array Oper} {rest : List Oper} {o : Oper} {a : Act} {Q : Exit → Act → World → Prop} {W : World} (N : Tmp) (cs : Array Value) (t : TypeId) (hgd : o.guard = none) (_hd : o.dst = some N)
    (hrun : (execOp a.eval o).run P W = .ok (.value (.pointer (some ⟨W.heap.size, 0, none⟩))) (W.alloc (.cells cs t)))
    (h : ∀ g w1, W.heap.size ≤ g → w1.heap[g]? = some (.cells cs t (0, 0)) → Below W.heap.size W w1 → wpList P ops Q rest (a.put o.dst (.pointer (some ⟨g, 0, none⟩))) w1) : wpList P ops Q (o :: rest) a W :=
  event hgd hrun (h _ _ (Nat.le_refl _) (heap_alloc_new W _) ((Below.refl _ _).alloc (Nat.le_refl _) _))
/-- What stays: Below, from one world to the next. -/
theorem below_trans {w w1 w2 : World} (h : Below w.heap.size w w1) (k : Below w1.heap.size w1 w2) : Below w.heap.size w w2 := h.trans (k.mono h.size)
theorem two_blocks (w : World) (o1 o2 : Obj) : ((w.alloc o1).alloc o2).heap[w.heap.size]? = some o1 ∧ ((w.alloc o1).alloc o2).heap[w.heap.size + 1]? = some o2 ∧ ((w.alloc o1).alloc o2).heap.size = w.heap.size + 2 ∧ Below w.heap.size w ((w.alloc o1).alloc o2) := by
  refine ⟨?_, ?_, by simp, ((Below.refl _ _).alloc (Nat.le_refl _) _).alloc (by simp) _⟩
  · rw [Below.heap_alloc _ _ _ (by simp)]; exact heap_alloc_new _ _
  · rw [← World.size_alloc w o1]; exact heap_alloc_new _ _
theorem run_copy_cells {P : Program} (w : World) (dT sT ty elem : TypeId) (g n sz dCap : Nat) (a : Addr) (sCap : Nat) (cur : Array Value) (t : TypeId) (cs : List Value)
    (hu : P.underlying dT = some (.slice elem)) (hs : (P.info? elem).map (·.size) = some sz)
    (hg : w.heap[g]? = some (.cells cur t (0, 0))) (hn : cs.length = n * sz) (hcur : cur.size = n * sz)
    (hsrc : ∀ j v, cs[j]? = some v → w.cell? (a.add j) = some v) (h1 : ∀ v ∈ cs, v.oneCell' = true) :
    (Builtin.copy_ #[dT, sT] ty #[.slice (some ⟨g, 0, none⟩) n dCap, .slice (some a) n sCap]).run P w =
      .ok (goInt n) (w.setRow g cs.toArray) := by
  have hl := run_loadCells_list (P := P) w a cs hsrc
  have hst := run_storeCells_at P g 0 t cs 0 cur w hg (by simp; omega) h1
  rw [show (0 + 0 + cs.length) = cur.toList.length by simp; omega, List.drop_length, List.append_nil] at hst
  simp only [Nat.add_zero, List.take_zero, List.nil_append] at hst
  cases hq : P.info? elem with
  | none => simp [hq] at hs
  | some i =>
    have hi : i.size = sz := by simpa [hq] using hs
    simp [Builtin.copy_, run_underlying hu, Builtin.lenOf, Builtin.firstCells, sizeOf, typeInfo, hq, hi, ← hn, hl, hst]
theorem run_copy_zero {P : Program} (w : World) (dT sT ty elem : TypeId) (g dCap : Nat) (A : Option Addr) (sCap : Nat)
    (hu : P.underlying dT = some (.slice elem)) (hs : ((P.info? elem).map (·.size)).isSome = true) :
    (Builtin.copy_ #[dT, sT] ty #[.slice (some ⟨g, 0, none⟩) 0 dCap, .slice A 0 sCap]).run P w = .ok (goInt 0) w := by
  cases hq : P.info? elem with
  | none => simp [hq] at hs
  | some i => cases A <;> simp [Builtin.copy_, run_underlying hu, Builtin.lenOf, Builtin.firstCells, sizeOf, typeInfo, hq, storeCells, loadCells, loadCellsFrom]
end Go.Proofs.Ytbdfdfahpdilpaa.Arr

/-! Maps of strings by ints, by hand: a block whose entries are a list's. -/
namespace Go.Proofs.Ytbdfdfahpdilpaa.Mp
open Go Go.RowKit Go.MapKept Go.ChangeMaps Go.Proofs.Ytbdfdfahpdilpaa.Arr
set_option linter.unusedVariables false
set_option linter.unusedSimpArgs false
abbrev En := Int × ByteArray × Nat
def ent (p : En) : MapEntry := ⟨.int .i64 p.1, .string p.2.1, p.2.2⟩
def ents (L : List En) : Array MapEntry := (L.map ent).toArray
def getM : List En → Int → Option ByteArray
  | [], _ => none
  | p :: r, k => if k = p.1 then some p.2.1 else getM r k
def findM : List En → Int → Nat → Option (Nat × ByteArray)
  | [], _, _ => none
  | p :: r, k, i => if k = p.1 then some (i, p.2.1) else findM r k (i + 1)
theorem find_get (k : Int) : ∀ (L : List En) (i : Nat), (findM L k i).map (·.2) = getM L k
  | [], _ => rfl
  | p :: r, i => by
    unfold findM getM
    by_cases h : k = p.1
    · rw [if_pos h, if_pos h]; rfl
    · rw [if_neg h, if_neg h]; exact find_get k r (i + 1)
theorem findNow_eq (k : Int) : ∀ (L : List En) (i : Nat), Instr.findNow (.int .i64) (.int .i64 k) (L.map ent) i = some ((findM L k i).map fun p => (p.1, .string p.2))
  | [], _ => rfl
  | p :: r, i => by
    have h1 : Instr.sameNow (.int .i64) (.int .i64 k) (ent p).key = some (k == p.1) := by simp [Instr.sameNow, ent]
    rw [List.map_cons, Instr.findNow, h1]
    unfold findM
    by_cases h : k = p.1
    · rw [if_pos h, beq_iff_eq.2 h]; rfl
    · rw [if_neg h, beq_eq_false_iff_ne.2 h]; exact findNow_eq k r (i + 1)
theorem find_at (k : Int) : ∀ (L : List En) (i j : Nat) (v : ByteArray), findM L k i = some (j, v) → ∃ b, i ≤ j ∧ L[j - i]? = some (k, v, b)
  | [], _, _, _, h => by cases h
  | p :: r, i, j, v, h => by
    unfold findM at h
    by_cases e : k = p.1
    · rw [if_pos e] at h
      cases h
      exact ⟨p.2.2, Nat.le_refl _, by rw [Nat.sub_self, e]; rfl⟩
    · rw [if_neg e] at h
      obtain ⟨b, h1, h2⟩ := find_at k r (i + 1) j v h
      refine ⟨b, by omega, ?_⟩
      rw [show j - i = (j - (i + 1)) + 1 by omega, List.getElem?_cons_succ]
      exact h2
theorem find_none (k : Int) : ∀ (L : List En) (i : Nat), findM L k i = none → ∀ p ∈ L, p.1 ≠ k
  | [], _, _, p, hp => by cases hp
  | q :: r, i, h, p, hp => by
    unfold findM at h
    by_cases e : k = q.1
    · rw [if_pos e] at h; cases h
    · rw [if_neg e] at h
      rcases List.mem_cons.1 hp with rfl | hp
      · exact fun e2 => e e2.symm
      · exact find_none k r (i + 1) h p hp
theorem get_none {k : Int} : ∀ {L : List En}, (∀ p ∈ L, p.1 ≠ k) → getM L k = none
  | [], _ => rfl
  | p :: r, h => by
    unfold getM
    rw [if_neg (fun e => h p (by simp) e.symm)]
    exact get_none (fun q hq => h q (by simp [hq]))
theorem get_append (k : Int) (v : ByteArray) (c : Nat) (j : Int) : ∀ (L : List En), getM (L ++ [(k, v, c)]) j = match getM L j with | some x => some x | none => if j = k then some v else none
  | [] => by simp [getM]
  | p :: r => by
    rw [List.cons_append]
    unfold getM
    by_cases h : j = p.1
    · simp [h]
    · rw [if_neg h, if_neg h]; exact get_append k v c j r
/-- What a map's list is to be: no key twice, no stamp twice, all stamps below the clock. -/
structure MI (L : List En) (c : Nat) : Prop where
  keys : (L.map (·.1)).Nodup
  borns : (L.map (·.2.2)).Nodup
  below : ∀ p ∈ L, p.2.2 < c
theorem MI.nil (c : Nat) : MI [] c := ⟨List.nodup_nil, List.nodup_nil, fun _ h => by cases h⟩
theorem MI.push {L : List En} {c : Nat} (h : MI L c) {k : Int} (hk : ∀ p ∈ L, p.1 ≠ k) (v : ByteArray) : MI (L ++ [(k, v, c)]) (c + 1) := by
  refine ⟨?_, ?_, fun p hp => ?_⟩
  · rw [List.map_append]
    refine List.nodup_append.2 ⟨h.keys, by simp, ?_⟩
    intro a ha b hb
    obtain ⟨p, hp, rfl⟩ := List.mem_map.1 ha
    simp at hb
    subst hb
    exact hk p hp
  · rw [List.map_append]
    refine List.nodup_append.2 ⟨h.borns, by simp, ?_⟩
    intro a ha b hb
    obtain ⟨p, hp, rfl⟩ := List.mem_map.1 ha
    simp at hb
    subst hb
    have := h.below p hp
    omega
  · rcases List.mem_append.1 hp with hp | hp
    · have := h.below p hp; omega
    · simp at hp; subst hp; simp
theorem map_modify_same {α β : Type} (f : α → β) (g : α → α) : ∀ (l : List α) (i : Nat) (x : α), l[i]? = some x → f (g x) = f x → (l.modify i g).map f = l.map f
  | [], i, x, h, _ => by simp at h
  | y :: r, 0, x, h, e => by simp at h; subst h; simp [e]
  | y :: r, i + 1, x, h, e => by simp at h; simp [map_modify_same f g r i x h e]
theorem MI.set {L : List En} {c : Nat} (h : MI L c) {i : Nat} {k : Int} {v0 : ByteArray} {b : Nat} (hi : L[i]? = some (k, v0, b)) (v : ByteArray) : MI (L.modify i fun p => (k, v, p.2.2)) c := by
  have h1 := map_modify_same (fun p : En => p.1) (fun p => (k, v, p.2.2)) L i _ hi rfl
  have h2 := map_modify_same (fun p : En => p.2.2) (fun p => (k, v, p.2.2)) L i _ hi rfl
  refine ⟨by rw [h1]; exact h.keys, by rw [h2]; exact h.borns, fun p hp => ?_⟩
  have : p.2.2 ∈ (L.modify i fun p => (k, v, p.2.2)).map (·.2.2) := List.mem_map.2 ⟨p, hp, rfl⟩
  rw [h2] at this
  obtain ⟨q, hq, e⟩ := List.mem_map.1 this
  rw [← e]
  exact h.below q hq
theorem get_modify (k : Int) (v : ByteArray) (j : Int) : ∀ (L : List En) (i : Nat) (x : ByteArray), findM L k 0 = some (i, x) → getM (L.modify i fun p => (k, v, p.2.2)) j = if j = k then some v else getM L j := by
  have gen : ∀ (L : List En) (s i : Nat) (x : ByteArray), findM L k s = some (s + i, x) → getM (L.modify i fun p => (k, v, p.2.2)) j = if j = k then some v else getM L j := by
    intro L
    induction L with
    | nil => intro s i x h; cases h
    | cons p r ih =>
      intro s i x h
      unfold findM at h
      by_cases e : k = p.1
      · rw [if_pos e] at h
        have hi : i = 0 := by injection h with h; injection h with h1 h2; omega
        subst hi
        rw [List.modify_zero_cons]
        unfold getM
        simp only
        by_cases ej : j = k
        · rw [if_pos ej, if_pos ej]
        · rw [if_neg ej, if_neg ej, if_neg (by rw [← e]; exact ej)]
      · rw [if_neg e] at h
        obtain ⟨b, h1, _⟩ := find_at k r (s + 1) (s + i) x h
        obtain ⟨i', rfl⟩ : ∃ i', i = i' + 1 := ⟨i - 1, by omega⟩
        rw [show s + (i' + 1) = (s + 1) + i' by omega] at h
        have := ih (s + 1) i' x h
        rw [List.modify_succ_cons]
        unfold getM
        by_cases ej : j = p.1
        · rw [if_pos ej, if_pos ej, if_neg (by rw [ej]; exact fun e2 => e e2.symm)]
        · rw [if_neg ej, if_neg ej]; exact this
  intro L i x h
  exact gen L 0 i x (by rw [Nat.zero_add]; exact h)
theorem MI.erase {L : List En} {c : Nat} (h : MI L c) (i : Nat) : MI (L.eraseIdx i) c :=
  ⟨h.keys.sublist ((List.eraseIdx_sublist L i).map _), h.borns.sublist ((List.eraseIdx_sublist L i).map _), fun p hp => h.below p (List.mem_of_mem_eraseIdx hp)⟩
theorem get_mem : ∀ {L : List En} {k : Int} {v : ByteArray}, getM L k = some v → ∃ b, (k, v, b) ∈ L
  | [], _, _, h => by cases h
  | p :: r, k, v, h => by
    unfold getM at h
    by_cases e : k = p.1
    · rw [if_pos e] at h
      cases h
      exact ⟨p.2.2, by rw [e]; simp⟩
    · rw [if_neg e] at h
      obtain ⟨b, hb⟩ := get_mem h
      exact ⟨b, by simp [hb]⟩
theorem get_of_mem : ∀ {L : List En} {c : Nat} {k : Int} {v : ByteArray} {b : Nat}, (L.map (·.1)).Nodup → (k, v, b) ∈ L → getM L k = some v
  | p :: r, c, k, v, b, hn, h => by
    have hn' := List.nodup_cons.1 hn
    unfold getM
    rcases List.mem_cons.1 h with rfl | h
    · rw [if_pos rfl]
    · rw [if_neg]
      · exact get_of_mem (c := c) hn'.2 h
      · intro e
        exact hn'.1 (List.mem_map.2 ⟨(k, v, b), h, e⟩)
theorem get_erase (k : Int) (j : Int) : ∀ (L : List En) (i : Nat) (x : ByteArray), (L.map (·.1)).Nodup → findM L k 0 = some (i, x) → getM (L.eraseIdx i) j = if j = k then none else getM L j := by
  have gen : ∀ (L : List En) (s i : Nat) (x : ByteArray), (L.map (·.1)).Nodup → findM L k s = some (s + i, x) → getM (L.eraseIdx i) j = if j = k then none else getM L j := by
    intro L
    induction L with
    | nil => intro s i x _ h; cases h
    | cons p r ih =>
      intro s i x hn h
      have hn' := List.nodup_cons.1 hn
      unfold findM at h
      by_cases e : k = p.1
      · rw [if_pos e] at h
        have hi : i = 0 := by injection h with h; injection h with h1 h2; omega
        subst hi
        rw [List.eraseIdx_zero, List.tail_cons]
        conv => rhs; unfold getM
        by_cases ej : j = k
        · rw [if_pos ej]
          refine get_none (fun q hq e2 => hn'.1 ?_)
          exact List.mem_map.2 ⟨q, hq, e2.trans (ej.trans e)⟩
        · rw [if_neg ej, if_neg (by rw [← e]; exact ej)]
      · rw [if_neg e] at h
        obtain ⟨b, h1, _⟩ := find_at k r (s + 1) (s + i) x h
        obtain ⟨i', rfl⟩ : ∃ i', i = i' + 1 := ⟨i - 1, by omega⟩
        rw [show s + (i' + 1) = (s + 1) + i' by omega] at h
        have := ih (s + 1) i' x hn'.2 h
        rw [List.eraseIdx_cons_succ]
        unfold getM
        by_cases ej : j = p.1
        · rw [if_pos ej, if_pos ej, if_neg (by rw [ej]; exact fun e2 => e e2.symm)]
        · rw [if_neg ej, if_neg ej]; exact this
  intro L i x hn h
  exact gen L 0 i x hn (by rw [Nat.zero_add]; exact h)
/-- Block m is a map in which k has f k. -/
def MP (w : World) (m : Nat) (f : Int → Option ByteArray) : Prop := ∃ L c, w.heap[m]? = some (.map (ents L) c) ∧ MI L c ∧ ∀ k, getM L k = f k
theorem MP.lt {w : World} {m : Nat} {f : Int → Option ByteArray} (h : MP w m f) : m < w.heap.size := by
  obtain ⟨L, c, h, _⟩ := h
  rcases Nat.lt_or_ge m w.heap.size with h1 | h1
  · exact h1
  · simp [Array.getElem?_eq_none h1] at h
theorem MP.same {w w' : World} {m : Nat} {f : Int → Option ByteArray} (h : MP w m f) (e : w'.heap[m]? = w.heap[m]?) : MP w' m f := by
  obtain ⟨L, c, h1, h2, h3⟩ := h
  exact ⟨L, c, e.trans h1, h2, h3⟩
theorem MP.made (w : World) : MP (w.alloc (.map #[] 0)) w.heap.size (fun _ => none) := ⟨[], 0, heap_alloc_new w _, MI.nil 0, fun _ => rfl⟩
section
variable {P : Program} {w : World} {t k e : TypeId} {m : Nat} {f : Int → Option ByteArray}
theorem checkKey_int (hk : P.underlying k = some (.int .i64)) (w : World) (em : Bool) (i : Int) : (Instr.checkKey em 10000 k (.int .i64 i)).run P w = .ok () w :=
  run_checkKey hk (by simp [IsKey]) em 9999
theorem run_lookup_mp (ht : P.underlying t = some (.map k e)) (hk : P.underlying k = some (.int .i64)) (hz : ∀ w, (zeroValue e).run P w = .ok (.string ⟨#[]⟩) w) (h : MP w m f) (i : Int) :
    (Instr.lookup t (.map (some m)) (.int .i64 i) true).run P w = .ok (.tuple #[.string ((f i).getD ⟨#[]⟩), .bool (f i).isSome]) w := by
  obtain ⟨L, c, h1, h2, h3⟩ := h
  have hf : (Instr.findKey k (.int .i64 i) (L.map ent)).run P w = .ok ((findM L i 0).map fun p => (p.1, .string p.2)) w := by
    simp [Instr.findKey, run_underlying hk, findNow_eq]
  have hg := find_get i L 0
  rw [h3] at hg
  cases hq : findM L i 0 with
  | none =>
    rw [hq] at hf hg
    have : f i = none := hg.symm
    simp [Instr.lookup, run_underlying ht, MapKept.run_getObj_map h1, checkKey_int hk, ents, hf, hz, this, Result.andThen]
  | some p =>
    rw [hq] at hf hg
    have : f i = some p.2 := hg.symm
    simp [Instr.lookup, run_underlying ht, MapKept.run_getObj_map h1, checkKey_int hk, ents, hf, hz, this, Result.andThen]
theorem setBlock_at (w : World) (m : Nat) (o : Obj) (h : m < w.heap.size) : (setBlock w m o).heap[m]? = some o := by
  show (w.heap.setIfInBounds m o)[m]? = _
  simp [h]
theorem setBlock_other (w : World) (m : Nat) (o : Obj) {j : Nat} (h : j ≠ m) : (setBlock w m o).heap[j]? = w.heap[j]? := by
  show (w.heap.setIfInBounds m o)[j]? = _
  simp [Ne.symm h]
theorem setBlock_size (w : World) (m : Nat) (o : Obj) : (setBlock w m o).heap.size = w.heap.size := by
  show (w.heap.setIfInBounds m o).size = _
  simp
theorem run_update_mp (ht : P.underlying t = some (.map k e)) (hk : P.underlying k = some (.int .i64)) (h : MP w m f) (i : Int) (s : ByteArray) :
    ∃ o, (Instr.mapUpdate t (.map (some m)) (.int .i64 i) (.string s)).run P w = .ok () (setBlock w m o) ∧ MP (setBlock w m o) m (fun j => if j = i then some s else f j) := by
  have hlt := h.lt
  obtain ⟨L, c, h1, h2, h3⟩ := h
  have hf : (Instr.findKey k (.int .i64 i) (L.map ent)).run P w = .ok ((findM L i 0).map fun p => (p.1, .string p.2)) w := by
    simp [Instr.findKey, run_underlying hk, findNow_eq]
  cases hq : findM L i 0 with
  | none =>
    rw [hq] at hf
    have hn := find_none i L 0 hq
    refine ⟨.map (ents (L ++ [(i, s, c)])) (c + 1), ?_, L ++ [(i, s, c)], c + 1, setBlock_at w m _ hlt, h2.push hn s, fun j => ?_⟩
    · have e1 : (ents L).push (ent (i, s, c)) = ents (L ++ [(i, s, c)]) := by simp [ents]
      have e2 : (⟨.int .i64 i, .string s, c⟩ : MapEntry) = ent (i, s, c) := rfl
      have hl : (ents L).toList = L.map ent := by simp [ents]
      simp only [Instr.mapUpdate, Sem.run_bind, run_underlying ht, MapKept.run_getObj_map h1, checkKey_int hk, hl, hf, MapKept.run_setObj_map _ h1, Result.andThen, Option.map_none, e2, e1]
      rfl
    · rw [get_append, h3]
      show _ = if j = i then some s else f j
      by_cases ej : j = i
      · subst ej
        rw [← h3, get_none hn]
      · rw [if_neg ej, if_neg ej]
        cases f j <;> rfl
  | some p =>
    obtain ⟨a, x⟩ := p
    rw [hq] at hf
    obtain ⟨b, _, hb⟩ := find_at i L 0 a x hq
    rw [Nat.sub_zero] at hb
    refine ⟨.map (ents (L.modify a fun p => (i, s, p.2.2))) c, ?_, _, c, setBlock_at w m _ hlt, h2.set hb s, fun j => ?_⟩
    · have hl : (ents L).toList = L.map ent := by simp [ents]
      have ha : (ents L)[a]? = some (ent (i, x, b)) := by simp [ents, hb]
      have hks : (Instr.keyThatStays (.int .i64 i) (.int .i64 i)).run P w = .ok (.int .i64 i) w := by
        have e0 : Instr.sameBits 10000 (.int .i64 i) (.int .i64 i) = true := by simp [Instr.sameBits]
        unfold Instr.keyThatStays
        rw [e0]
        rfl
      have e1 : (ents L).modify a (fun e => { e with key := .int .i64 i, val := .string s }) = ents (L.modify a fun p => (i, s, p.2.2)) := by
        apply Array.toList_inj.1
        rw [Array.toList_modify]
        simp only [ents]
        apply List.ext_getElem?
        intro q
        simp only [List.getElem?_modify, List.getElem?_map]
        by_cases hqa : a = q
        · subst hqa; simp [hb, ent]
        · simp [hqa]
      have ek : (ent (i, x, b)).key = .int .i64 i := rfl
      simp only [Instr.mapUpdate, Sem.run_bind, run_underlying ht, MapKept.run_getObj_map h1, checkKey_int hk, hl, hf, Result.andThen, Option.map_some, ha, ek, Option.getD_some, hks, MapKept.run_setObj_map _ h1, e1]
      rfl
    · rw [get_modify i s j L a x hq, h3]
theorem run_clear_mp (ht : P.underlying t = some (.map k e)) (h : MP w m f) (ty : TypeId) :
    ∃ o, (Builtin.clear_ #[t] ty #[.map (some m)]).run P w = .ok (.tuple #[]) (setBlock w m o) ∧ MP (setBlock w m o) m (fun _ => none) := by
  have hlt := h.lt
  obtain ⟨L, c, h1, h2, h3⟩ := h
  refine ⟨.map #[] c, ?_, [], c, setBlock_at w m _ hlt, MI.nil c, fun _ => rfl⟩
  simp [Builtin.clear_, run_underlying ht, MapKept.run_getObj_map h1, MapKept.run_setObj_map _ h1, Result.andThen]
  rfl
theorem run_delete_mp (ht : P.underlying t = some (.map k e)) (hk : P.underlying k = some (.int .i64)) (h : MP w m f) (i : Int) (ty : TypeId) :
    ∃ o, (Builtin.delete_ #[t, k] ty #[.map (some m), .int .i64 i]).run P w = .ok (.tuple #[]) (setBlock w m o) ∧ MP (setBlock w m o) m (fun j => if j = i then none else f j) := by
  have hlt := h.lt
  obtain ⟨L, c, h1, h2, h3⟩ := h
  have hf : (Instr.findKey k (.int .i64 i) (L.map ent)).run P w = .ok ((findM L i 0).map fun p => (p.1, .string p.2)) w := by
    simp [Instr.findKey, run_underlying hk, findNow_eq]
  have hl : (ents L).toList = L.map ent := by simp [ents]
  cases hq : findM L i 0 with
  | none =>
    rw [hq] at hf
    have hn := find_none i L 0 hq
    refine ⟨.map (ents L) c, ?_, L, c, setBlock_at w m _ hlt, h2, fun j => ?_⟩
    · simp only [Builtin.delete_, List.getElem?_toArray, List.getElem?_cons_zero, List.getElem?_cons_succ, Sem.run_bind, run_underlying ht, MapKept.run_getObj_map h1, checkKey_int hk, hl, hf, MapKept.run_setObj_map _ h1, Result.andThen, Option.map_none]
      rfl
    · show _ = if j = i then none else f j
      by_cases ej : j = i
      · subst ej; rw [if_pos rfl, get_none hn]
      · rw [if_neg ej, h3]
  | some p =>
    obtain ⟨a, x⟩ := p
    rw [hq] at hf
    refine ⟨.map (ents (L.eraseIdx a)) c, ?_, L.eraseIdx a, c, setBlock_at w m _ hlt, h2.erase a, fun j => ?_⟩
    · have e1 : (ents L).eraseIdxIfInBounds a = ents (L.eraseIdx a) := by
        apply Array.toList_inj.1
        rw [Array.toList_eraseIdxIfInBounds]
        simp [ents, map_eraseIdx]
      simp only [Builtin.delete_, List.getElem?_toArray, List.getElem?_cons_zero, List.getElem?_cons_succ, Sem.run_bind, run_underlying ht, MapKept.run_getObj_map h1, checkKey_int hk, hl, hf, MapKept.run_setObj_map _ h1, Result.andThen, Option.map_some, e1]
      rfl
    · rw [get_erase i j L a x h2.keys hq, h3]
end
end Go.Proofs.Ytbdfdfahpdilpaa.Mp

/-! Owned rows, and what is touched: by block. -/
namespace Go.Proofs.Ytbdfdfahpdilpaa.Ow
open Go Go.RowKit Go.ChangeMaps Go.Proofs.Ytbdfdfahpdilpaa.Arr Go.Proofs.Ytbdfdfahpdilpaa.Mp
set_option linter.unusedVariables false
set_option linter.unusedSimpArgs false
/-- Nothing but blocks in S is touched. -/
structure FS (S : Nat → Prop) (w w' : World) : Prop where
  os : w'.os = w.os
  tape : w'.tape = w.tape
  output : w'.output = w.output
  size : w.heap.size ≤ w'.heap.size
  block : ∀ k, k < w.heap.size → ¬ S k → w'.heap[k]? = w.heap[k]?
theorem FS.refl (S : Nat → Prop) (w : World) : FS S w w := ⟨rfl, rfl, rfl, Nat.le_refl _, fun _ _ _ => rfl⟩
theorem FS.trans {S : Nat → Prop} {a b c : World} (h : FS S a b) (k : FS S b c) : FS S a c :=
  ⟨k.os.trans h.os, k.tape.trans h.tape, k.output.trans h.output, Nat.le_trans h.size k.size, fun i hi hn => (k.block i (Nat.lt_of_lt_of_le hi h.size) hn).trans (h.block i hi hn)⟩
/-- .. the second step may touch what is new behind the first's beginning, too. -/
theorem FS.step {S S2 : Nat → Prop} {a b c : World} (h : FS S a b) (k : FS S2 b c) (hs : ∀ i, S2 i → S i ∨ a.heap.size ≤ i) : FS S a c :=
  ⟨k.os.trans h.os, k.tape.trans h.tape, k.output.trans h.output, Nat.le_trans h.size k.size, fun i hi hn => (k.block i (Nat.lt_of_lt_of_le hi h.size) (fun e => (hs i e).elim hn (fun e2 => by omega))).trans (h.block i hi hn)⟩
theorem FS.below {S : Nat → Prop} {a b c : World} (h : FS S a b) (k : Below b.heap.size b c) : FS S a c :=
  h.step (S2 := fun _ => False) ⟨k.os, k.tape, k.output, k.size, fun i hi _ => k.block i hi⟩ (fun _ e => e.elim)
theorem FS.drew {S : Nat → Prop} {a b : World} (h : FS S a b) : FS S a b.drew := ⟨h.os, h.tape, h.output, h.size, h.block⟩
theorem FS.alloc {S : Nat → Prop} {a b : World} (h : FS S a b) (o : Obj) : FS S a (b.alloc o) :=
  h.below ((Below.refl _ _).alloc (Nat.le_refl _) _)
theorem FS.setCell {S : Nat → Prop} {a b : World} (h : FS S a b) {p : Addr} (hp : S p.block ∨ a.heap.size ≤ p.block) (v : Value) : FS S a (b.setCell p v) :=
  h.step (S2 := fun k => k = p.block) ⟨rfl, rfl, rfl, by simp [World.setCell], fun i _ hn => Below.heap_setCell b p v i hn⟩ (fun i e => by subst e; exact hp)
theorem FS.setBlock {S : Nat → Prop} {a b : World} (h : FS S a b) {m : Nat} (hp : S m ∨ a.heap.size ≤ m) (o : Obj) : FS S a (setBlock b m o) :=
  h.step (S2 := fun k => k = m) ⟨rfl, rfl, rfl, Nat.le_of_eq (setBlock_size b m o).symm, fun i _ hn => setBlock_other b m o hn⟩ (fun i e => by subst e; exact hp)
theorem FS.grown {S : Nat → Prop} {a b c : World} {row : Option Nat} (h : FS S a b) (hg : b.grownBy c row) (hr : ∀ k, row = some k → S k ∨ a.heap.size ≤ k) : FS S a c :=
  h.step (S2 := fun k => row = some k) ⟨hg.os, hg.tape, hg.output, hg.size, fun i hi hn => hg.block i hi (fun e => hn e.symm)⟩ (fun i e => hr i e)
theorem FS.of_below {B : Nat} {w w' : World} (h : Below B w w') : FS (B ≤ ·) w w' := ⟨h.os, h.tape, h.output, h.size, fun k _ hn => h.block k (by omega)⟩
theorem FS.to_below {w0 w w' : World} {S : Nat → Prop} (h0 : Below w0.heap.size w0 w) (h : FS S w w') (hS : ∀ k, S k → w0.heap.size ≤ k) : Below w0.heap.size w0 w' :=
  h0.trans ⟨h.os, h.tape, h.output, h.size, fun k hk => h.block k (Nat.lt_of_lt_of_le hk h0.size) (fun e => by have := hS k e; omega)⟩
theorem FS.mono {S S2 : Nat → Prop} {w w' : World} (h : FS S w w') (hs : ∀ k, k < w.heap.size → S k → S2 k) : FS S2 w w' := ⟨h.os, h.tape, h.output, h.size, fun k hk hn => h.block k hk (fun e => hn (hs k hk e))⟩
theorem FS.old {S : Nat → Prop} {w w' : World} (h : FS S w w') {k : Nat} {o : Obj} (hk : w.heap[k]? = some o) (hn : ¬ S k) : w'.heap[k]? = some o := by
  have hl : k < w.heap.size := by
    rcases Nat.lt_or_ge k w.heap.size with h1 | h1
    · exact h1
    · simp [Array.getElem?_eq_none h1] at hk
  exact (h.block k hl hn).trans hk
/-- A row of cells in a block of its own, that lies in S. -/
structure Ow (w : World) (S : Nat → Prop) (e : TypeId) (sz : Nat) (v : Value) (n : Nat) (xs : List Value) : Prop where
  own : w.ownsRow 0 e sz v n xs
  mem : ∀ k, v.ownBlock = some k → S k
theorem Ow.nil (w : World) (S : Nat → Prop) (e : TypeId) (sz : Nat) : Ow w S e sz (.slice none 0 0) 0 [] := ⟨World.ownsRow_nil w 0 e sz, fun _ h => by cases h⟩
theorem Ow.mono {w : World} {S S2 : Nat → Prop} {e : TypeId} {sz : Nat} {v : Value} {n : Nat} {xs : List Value} (h : Ow w S e sz v n xs) (hs : ∀ k, k < w.heap.size → S k → S2 k) : Ow w S2 e sz v n xs :=
  ⟨h.own, fun k hk => hs k (h.own.lt k hk).2 (h.mem k hk)⟩
theorem Ow.kept {w w' : World} {S S2 : Nat → Prop} {e : TypeId} {sz : Nat} {v : Value} {n : Nat} {xs : List Value} (h : Ow w S e sz v n xs) (hf : FS S2 w w') (hd : ∀ k, S k → ¬ S2 k) : Ow w' S e sz v n xs := by
  refine ⟨?_, h.mem⟩
  obtain ⟨hl, h1⟩ := h.own
  refine ⟨hl, ?_⟩
  rcases h1 with h1 | ⟨g, cap, cur, hv, hb, hg, r⟩
  · exact .inl h1
  · exact .inr ⟨g, cap, cur, hv, hb, hf.old hg (hd g (h.mem g (by rw [hv]; rfl))), r⟩
/-- .. if its own block is as it was. -/
theorem Ow.same {w w' : World} {S : Nat → Prop} {e : TypeId} {sz : Nat} {v : Value} {n : Nat} {xs : List Value} (h : Ow w S e sz v n xs) (hf : ∀ k, v.ownBlock = some k → w'.heap[k]? = w.heap[k]?) : Ow w' S e sz v n xs := by
  refine ⟨?_, h.mem⟩
  obtain ⟨hl, h1⟩ := h.own
  refine ⟨hl, ?_⟩
  rcases h1 with h1 | ⟨g, cap, cur, hv, hb, hg, r⟩
  · exact .inl h1
  · exact .inr ⟨g, cap, cur, hv, hb, (hf g (by rw [hv]; rfl)).trans hg, r⟩
/-- What a row is, opened. -/
theorem Ow.shape {w : World} {S : Nat → Prop} {e : TypeId} {sz : Nat} {v : Value} {n : Nat} {xs : List Value} (h : Ow w S e sz v n xs) : ∃ A c, v = .slice A n c ∧ n ≤ c ∧ c ≤ maxLen ∧ xs.length = n * sz := by
  obtain ⟨hl, h1⟩ := h.own
  rcases h1 with ⟨rfl, rfl⟩ | ⟨g, cap, cur, hv, hb, hg, h2, h3, h4, h5⟩
  · exact ⟨none, 0, rfl, Nat.le_refl _, by decide, hl⟩
  · exact ⟨some ⟨g, 0, none⟩, cap, hv, h2, h3, hl⟩
theorem Ow.open {w : World} {S : Nat → Prop} {e : TypeId} {sz : Nat} {v : Value} {n : Nat} {xs : List Value} (h : Ow w S e sz v n xs) (hn : 0 < n) : ∃ g c cur, v = .slice (some ⟨g, 0, none⟩) n c ∧ S g ∧ w.heap[g]? = some (.cells cur e (0, 0)) ∧ n ≤ c ∧ c ≤ maxLen ∧ cur.size = c * sz ∧ cur.toList.take (n * sz) = xs := by
  obtain ⟨hl, h1⟩ := h.own
  rcases h1 with ⟨rfl, rfl⟩ | ⟨g, cap, cur, hv, hb, hg, r⟩
  · omega
  · exact ⟨g, cap, cur, hv, h.mem g (by rw [hv]; rfl), hg, r⟩
theorem take_get {α : Type} {l : List α} {n j : Nat} {x : α} (h : (l.take n)[j]? = some x) : l[j]? = some x := by
  rw [List.getElem?_take] at h
  split at h
  · exact h
  · cases h
theorem cell_of {w : World} {g : Nat} {cur : Array Value} {e : TypeId} {xs : List Value} {n j : Nat} {x : Value} (hg : w.heap[g]? = some (.cells cur e (0, 0))) (ht : cur.toList.take n = xs) (hx : xs[j]? = some x) : w.cell? ⟨g, j, none⟩ = some x := by
  have h1 : cur.toList[j]? = some x := take_get (n := n) (by rw [ht]; exact hx)
  simp only [World.cell?, hg]
  simpa using h1
/-- A cell of it is written. -/
theorem Ow.put {w : World} {S : Nat → Prop} {e : TypeId} {sz n c g : Nat} {xs : List Value} (h : Ow w S e sz (.slice (some ⟨g, 0, none⟩) n c) n xs) (j : Nat) (hj : j < n * sz) (u : Value) : Ow (w.setCell ⟨g, j, none⟩ u) S e sz (.slice (some ⟨g, 0, none⟩) n c) n (xs.set j u) := by
  refine ⟨?_, h.mem⟩
  obtain ⟨hl, h1⟩ := h.own
  refine ⟨by rw [List.length_set]; exact hl, ?_⟩
  rcases h1 with ⟨h1, _⟩ | ⟨g', cap, cur, hv, hb, hg, h2, h3, h4, h5⟩
  · cases h1
  · cases hv
    refine .inr ⟨g, c, cur.setIfInBounds j u, rfl, hb, ?_, h2, h3, by simpa using h4, ?_⟩
    · have hl2 : g < w.heap.size := by
        rcases Nat.lt_or_ge g w.heap.size with h1 | h1
        · exact h1
        · simp [Array.getElem?_eq_none h1] at hg
      simp only [World.setCell]
      rw [Array.getElem?_modify, if_pos rfl, hg]
      rfl
    · rw [Array.toList_setIfInBounds, List.take_set, h5]
theorem grownBy_rfl (w : World) (row : Option Nat) : w.grownBy w row := ⟨rfl, rfl, rfl, Nat.le_refl _, fun _ _ _ => rfl⟩
/-- 'append(v, x...)': in the block that there is, or in a new one. -/
theorem run_append_ow {P : Program} {w : World} {S : Nat → Prop} (t ty e : TypeId) (i : TypeInfo) (z : Value) (size bytes : Nat) (ht : P.underlying t = some (.slice e)) (hi : P.info? e = some i) (hz : i.zero = some z)
    (hsize : i.size = size) (hby : i.bytes = bytes) (hzs : z.cells.size = size) (hsz : 0 < size)
    (v : Value) (n : Nat) (xs : List Value) (h : Ow w S e size v n xs)
    (a : Addr) (m c : Nat) (news : List Value) (hl : news.length = m * size) (hnews : ∀ j u, news[j]? = some u → w.cell? (a.add j) = some u) (h1 : ∀ u ∈ news, u.oneCell' = true)
    (h63 : n + m ≤ maxLen) (hbytes : (n + m) * bytes ≤ 140737488355328) (hm : 0 < m) :
    ∃ v' w', (Builtin.append_ #[t, t] ty #[v, .slice (some a) m c]).run P w = .ok v' w' ∧ Ow w' (fun k => S k ∨ k = w.heap.size) e size v' (n + m) (xs ++ news) ∧ w.grownBy w' v.ownBlock ∧ (v'.ownBlock = v.ownBlock ∨ v'.ownBlock = some w.heap.size) ∧ ∃ g' c', v' = .slice (some ⟨g', 0, none⟩) (n + m) c' := by
  obtain ⟨v', w', hr, ho, hg, _⟩ := run_append_own w 0 t ty e i z size bytes ht hi hz hsize hby hzs hsz v n xs h.own a m c news hl hnews h1 h63 hbytes (Nat.zero_le _)
  have key : (v'.ownBlock = v.ownBlock ∨ v'.ownBlock = some w.heap.size) ∧ ∃ g' c', v' = .slice (some ⟨g', 0, none⟩) (n + m) c' := by
    subst hsize
    subst hby
    have hsmall : n + m ≤ 9223372036854775807 := by simp only [maxLen] at h63; omega
    rcases h.own.2 with ⟨rfl, rfl⟩ | ⟨g, cap, cur, rfl, hbg, hgc, hnc, hcm, hcs, htake⟩
    · have hr2 := run_append_nil (P := P) w t ty e i z ht hi hz a m c news hl hnews (by omega) (by omega) (by have hb := hbytes; simp only [Nat.zero_add] at hb; omega)
      rw [hr] at hr2
      injection hr2 with e1 e2
      rw [e1, Nat.zero_add]
      exact ⟨.inr rfl, _, _, rfl⟩
    · by_cases hroom : n + m ≤ cap
      · have hfit : n * i.size + news.length ≤ cur.size := by rw [hl, hcs, ← Nat.add_mul]; exact Nat.mul_le_mul_right _ hroom
        have hr2 := run_append_room (P := P) w t ty e i ht hi g n cap cur hgc a m c news hl hnews h1 hroom hfit
        rw [hr] at hr2
        injection hr2 with e1 e2
        rw [e1]
        exact ⟨.inl rfl, _, _, rfl⟩
      · have holds : ∀ j u, xs[j]? = some u → w.cell? ((⟨g, 0, none⟩ : Addr).add j) = some u := h.own.cells (g := g) rfl
        have hr2 := run_append_grow (P := P) w t ty e i z ht hi hz ⟨g, 0, none⟩ n cap xs h.own.1 holds a m c news hl hnews (by omega) (by omega) (growslice_fits (by omega) hbytes)
        rw [hr] at hr2
        injection hr2 with e1 e2
        rw [e1]
        exact ⟨.inr rfl, _, _, rfl⟩
  refine ⟨v', w', hr, ⟨ho, fun k hk => ?_⟩, hg, key⟩
  rcases key.1 with e1 | e1
  · exact .inl (h.mem k (e1 ▸ hk))
  · rw [e1] at hk
    exact .inr (by injection hk with hk; exact hk.symm)
/-- 'append' at the operation, its run known. -/
theorem ev_append {P : Program} {ops : Array Oper} {rest : List Oper} {o : Oper} {a : Act} {Q : Exit → Act → World → Prop} {W w1 : World} {v : Value} (s x : Operand) (t : TypeId) (hgd : o.guard = none)
    (ho : o.op = .call { callee := .builtin .append, args := #[s, x], argTypes := #[t, t] }) (v1 v2 : Value) (hs : a.eval s = v1) (hx : a.eval x = v2) (hr : (Builtin.append_ #[t, t] o.type #[v1, v2]).run P W = .ok v w1) (h : wpList P ops Q rest (a.put o.dst v) w1) : wpList P ops Q (o :: rest) a W := by
  refine wpList_plain hgd fun _ hK => ?_
  unfold Oper.wp execOp
  simp only [ho, resolve, invoke, builtin, Sem.run_bind, Sem.run_pure, Result.andThen_ok, List.map_toArray, List.map_cons, List.map_nil, hs, hx, hr]
  exact hK _ _ h
theorem ev_copy {P : Program} {ops : Array Oper} {rest : List Oper} {o : Oper} {a : Act} {Q : Exit → Act → World → Prop} {W w1 : World} {v : Value} (s x : Operand) (t t2 : TypeId) (hgd : o.guard = none)
    (ho : o.op = .call { callee := .builtin .copy, args := #[s, x], argTypes := #[t, t2] }) (v1 v2 : Value) (hs : a.eval s = v1) (hx : a.eval x = v2) (hr : (Builtin.copy_ #[t, t2] o.type #[v1, v2]).run P W = .ok v w1) (h : wpList P ops Q rest (a.put o.dst v) w1) : wpList P ops Q (o :: rest) a W := by
  refine wpList_plain hgd fun _ hK => ?_
  unfold Oper.wp execOp
  simp only [ho, resolve, invoke, builtin, Sem.run_bind, Sem.run_pure, Result.andThen_ok, List.map_toArray, List.map_cons, List.map_nil, hs, hx, hr]
  exact hK _ _ h
theorem ev_make {P : Program} {ops : Array Oper} {rest : List Oper} {o : Oper} {a : Act} {Q : Exit → Act → World → Prop} {W w1 : World} {v : Value} (s x : Operand) (t : TypeId) (hgd : o.guard = none)
    (ho : o.op = .makeSlice t s x) (v1 v2 : Value) (hs : a.eval s = v1) (hx : a.eval x = v2) (hr : (Instr.makeSlice t v1 v2).run P W = .ok v w1) (h : wpList P ops Q rest (a.put o.dst v) w1) : wpList P ops Q (o :: rest) a W := by
  refine wpList_plain hgd fun _ hK => ?_
  unfold Oper.wp execOp
  simp only [ho, Sem.run_bind, Sem.run_pure, Result.andThen_ok, hs, hx, hr]
  exact hK _ _ h
theorem made_one (z : Value) (n : Nat) : madeCells #[z] n = (List.replicate n z).toArray := by
  unfold madeCells
  apply Array.toList_inj.1
  apply List.ext_getElem?
  intro i
  simp [List.getElem?_replicate, Nat.mod_one]
  by_cases h : i < n
  · simp [h]
  · simp [h]
theorem FS.pre {S : Nat → Prop} {a b c : World} (h : Below a.heap.size a b) (k : FS S b c) (hs : ∀ i, S i → i < b.heap.size → i < a.heap.size → S i) : FS S a c :=
  ⟨k.os.trans h.os, k.tape.trans h.tape, k.output.trans h.output, Nat.le_trans h.size k.size, fun i hi hn => (k.block i (Nat.lt_of_lt_of_le hi h.size) hn).trans (h.block i hi)⟩
end Go.Proofs.Ytbdfdfahpdilpaa.Ow

/-! Layer 3: a disk: what it holds. -/
namespace Go.Proofs.Ytbdfdfahpdilpaa.Dk
open Go Go.RowKit Go.ChangeMaps Go.Proofs.Ytbdfdfahpdilpaa.Arr Go.Proofs.Ytbdfdfahpdilpaa.Mp Go.Proofs.Ytbdfdfahpdilpaa.Ow
set_option linter.unusedVariables false
set_option linter.unusedSimpArgs false
/-- What a disk holds. -/
structure DS where
  safe : List ByteArray
  row : List (Int × ByteArray)
  gone : Bool
  fuse : Int
def lastOf (row : List (Int × ByteArray)) : Int → Option ByteArray := fun i => row.foldl (fun o p => if i = p.1 then some p.2 else o) none
theorem last_nil : lastOf [] = fun _ => none := rfl
theorem last_push (row : List (Int × ByteArray)) (k : Int) (s : ByteArray) : lastOf (row ++ [(k, s)]) = fun i => if i = k then some s else lastOf row i := by
  funext i
  simp [lastOf, List.foldl_append]
def wc (row : List (Int × ByteArray)) : List Value := row.flatMap fun p => [.int .i64 p.1, .string p.2]
theorem wc_length (row : List (Int × ByteArray)) : (wc row).length = row.length * 2 := by
  induction row with
  | nil => rfl
  | cons p r ih => simp only [wc, List.flatMap_cons, List.length_append, List.length_cons, List.length_nil] at ih ⊢; omega
theorem wc_push (row : List (Int × ByteArray)) (k : Int) (s : ByteArray) : wc (row ++ [(k, s)]) = wc row ++ [.int .i64 k, .string s] := by simp [wc, List.flatMap_append]
theorem wc_get (row : List (Int × ByteArray)) (j : Nat) (k : Int) (s : ByteArray) (h : row[j]? = some (k, s)) : (wc row)[j * 2]? = some (.int .i64 k) ∧ (wc row)[j * 2 + 1]? = some (.string s) := by
  induction row generalizing j with
  | nil => simp at h
  | cons p r ih =>
    have e : wc (p :: r) = .int .i64 p.1 :: .string p.2 :: wc r := by simp [wc]
    rw [e]
    cases j with
    | zero => simp at h; subst h; exact ⟨rfl, rfl⟩
    | succ j =>
      have := ih j (by simpa using h)
      rw [show (j + 1) * 2 = j * 2 + 1 + 1 by omega]
      simpa using this
/-- All that is new lies in S. -/
def Top (S : Nat → Prop) (w : World) : Prop := ∀ k, w.heap.size ≤ k → S k
theorem Top.next {S : Nat → Prop} {w w' : World} (h : Top S w) (hl : w.heap.size ≤ w'.heap.size) : Top S w' := fun k hk => h k (Nat.le_trans hl hk)
theorem blk_ne {w : World} {a b : Nat} {cs cs' : Array Value} {t t' : TypeId} {fr fr' : Nat × Nat} (h : w.heap[a]? = some (.cells cs t fr)) (h' : w.heap[b]? = some (.cells cs' t' fr')) (ht : t ≠ t') : a ≠ b := by
  intro e
  subst e
  rw [h] at h'
  injection h' with h'
  injection h' with _ h2 _
  exact ht h2
theorem MP.ne_cells {w : World} {m g : Nat} {f : Int → Option ByteArray} {cs : Array Value} {t : TypeId} {fr : Nat × Nat} (h : MP w m f) (hg : w.heap[g]? = some (.cells cs t fr)) : m ≠ g := by
  obtain ⟨L, c, h1, _⟩ := h
  intro e
  subst e
  rw [hg] at h1
  cases h1
theorem ow_ne {w : World} {S : Nat → Prop} {e : TypeId} {sz : Nat} {v : Value} {n : Nat} {xs : List Value} (h : Ow w S e sz v n xs) {g : Nat} {cs : Array Value} {t : TypeId} {fr : Nat × Nat} (hg : w.heap[g]? = some (.cells cs t fr)) (ht : e ≠ t) : ∀ k, v.ownBlock = some k → k ≠ g := by
  intro k hk
  rcases h.own.2 with ⟨h1, _⟩ | ⟨g', cap, cur, hv, _, h2, _⟩
  · rw [h1] at hk; cases hk
  · rw [hv] at hk
    injection hk with hk
    subst hk
    exact blk_ne h2 hg ht
theorem ow_ne2 {w : World} {S S' : Nat → Prop} {e e' : TypeId} {sz sz' : Nat} {v v' : Value} {n n' : Nat} {xs xs' : List Value} (h : Ow w S e sz v n xs) (h' : Ow w S' e' sz' v' n' xs') (ht : e ≠ e') : ∀ k, v.ownBlock = some k → v'.ownBlock ≠ some k := by
  intro k hk hk'
  rcases h'.own.2 with ⟨h1, _⟩ | ⟨g', cap, cur, hv, _, h2, _⟩
  · rw [h1] at hk'; cases hk'
  · rw [hv] at hk'
    injection hk' with hk'
    subst hk'
    exact ow_ne h h2 ht _ hk rfl
theorem ow_nem {w : World} {S : Nat → Prop} {e : TypeId} {sz : Nat} {v : Value} {n : Nat} {xs : List Value} (h : Ow w S e sz v n xs) {m : Nat} {f : Int → Option ByteArray} (hm : MP w m f) : ∀ k, v.ownBlock = some k → k ≠ m := by
  intro k hk
  rcases h.own.2 with ⟨h1, _⟩ | ⟨g', cap, cur, hv, _, h2, _⟩
  · rw [h1] at hk; cases hk
  · rw [hv] at hk
    injection hk with hk
    subst hk
    exact (MP.ne_cells hm h2).symm
abbrev TD : TypeId := 81
abbrev TW : TypeId := 84
abbrev TS : TypeId := 9
structure DV (w : World) (S : Nat → Prop) (g : Nat) (d : DS) (f : Int → Option ByteArray) (sv rv : Value) (m : Nat) : Prop where
  blk : w.heap[g]? = some (.cells #[sv, rv, .map (some m), .bool d.gone, .int .i64 d.fuse] TD (0, 0))
  safe : Ow w S TS 1 sv d.safe.length (d.safe.map .string)
  row : Ow w S TW 2 rv d.row.length (wc d.row)
  map : MP w m f
  sg : S g
  sm : S m
/-- Pointer g's disk is d; all its blocks lie in S. -/
def DK (w : World) (S : Nat → Prop) (g : Nat) (d : DS) : Prop := ∃ sv rv m, DV w S g d (lastOf d.row) sv rv m
section
variable {w w' : World} {S S2 : Nat → Prop} {g : Nat} {d : DS} {f : Int → Option ByteArray} {sv rv : Value} {m : Nat}
theorem DV.lt (h : DV w S g d f sv rv m) : g < w.heap.size := by
  rcases Nat.lt_or_ge g w.heap.size with h1 | h1
  · exact h1
  · have := h.blk; simp [Array.getElem?_eq_none h1] at this
theorem DV.mono (h : DV w S g d f sv rv m) (hs : ∀ k, k < w.heap.size → S k → S2 k) : DV w S2 g d f sv rv m :=
  ⟨h.blk, h.safe.mono hs, h.row.mono hs, h.map, hs g h.lt h.sg, hs m h.map.lt h.sm⟩
theorem DV.kept (h : DV w S g d f sv rv m) (hf : FS S2 w w') (hd : ∀ k, S k → ¬ S2 k) : DV w' S g d f sv rv m :=
  ⟨hf.old h.blk (hd g h.sg), h.safe.kept hf hd, h.row.kept hf hd, h.map.same (hf.block m h.map.lt (hd m h.sm)), h.sg, h.sm⟩
theorem DV.below (h : DV w S g d f sv rv m) (hb : Below w.heap.size w w') : DV w' S g d f sv rv m :=
  ⟨(hb.block g h.lt).trans h.blk, h.safe.same fun k hk => hb.block k (h.safe.own.lt k hk).2, h.row.same fun k hk => hb.block k (h.row.own.lt k hk).2, h.map.same (hb.block m h.map.lt), h.sg, h.sm⟩
theorem DV.drew (h : DV w S g d f sv rv m) : DV w.drew S g d f sv rv m := h.below ((Below.refl _ _).drew)
theorem DV.setg (h : DV w S g d f sv rv m) (i : Nat) (u : Value) {d' : DS} {rv' : Value} (hc : #[sv, rv, .map (some m), .bool d.gone, .int .i64 d.fuse].setIfInBounds i u = #[sv, rv', .map (some m), .bool d'.gone, .int .i64 d'.fuse]) (hs : d'.safe = d.safe) (hr : Ow w S TW 2 rv' d'.row.length (wc d'.row)) : DV (w.setCell ⟨g, i, none⟩ u) S g d' f sv rv' m := by
  have hb : (w.setCell ⟨g, i, none⟩ u).heap[g]? = some (.cells #[sv, rv', .map (some m), .bool d'.gone, .int .i64 d'.fuse] TD (0, 0)) := by
    simp only [World.setCell]
    rw [Array.getElem?_modify, if_pos rfl, h.blk, ← hc]
    rfl
  refine ⟨hb, ?_, hr.same fun k hk => Below.heap_setCell w ⟨g, i, none⟩ u k (ow_ne hr h.blk (by decide) k hk), h.map.same (Below.heap_setCell w ⟨g, i, none⟩ u m (MP.ne_cells h.map h.blk)), h.sg, h.sm⟩
  rw [hs]
  exact h.safe.same fun k hk => Below.heap_setCell w ⟨g, i, none⟩ u k (ow_ne h.safe h.blk (by decide) k hk)
theorem DV.set_gone (h : DV w S g d f sv rv m) (b : Bool) : DV (w.setCell ⟨g, 3, none⟩ (.bool b)) S g { d with gone := b } f sv rv m := h.setg 3 (.bool b) rfl rfl h.row
theorem DV.set_fuse (h : DV w S g d f sv rv m) (b : Int) : DV (w.setCell ⟨g, 4, none⟩ (.int .i64 b)) S g { d with fuse := b } f sv rv m := h.setg 4 (.int .i64 b) rfl rfl h.row
theorem DV.set_row (h : DV w S g d f sv rv m) {rv' : Value} {row' : List (Int × ByteArray)} (hr : Ow w S TW 2 rv' row'.length (wc row')) : DV (w.setCell ⟨g, 1, none⟩ rv') S g { d with row := row' } f sv rv' m := h.setg 1 rv' rfl rfl hr
theorem DV.set_map (h : DV w S g d f sv rv m) {o : Obj} {f' : Int → Option ByteArray} (ho : MP (setBlock w m o) m f') : DV (setBlock w m o) S g d f' sv rv m :=
  ⟨(setBlock_other w m o (MP.ne_cells h.map h.blk).symm).trans h.blk, h.safe.same fun k hk => setBlock_other w m o (ow_nem h.safe h.map k hk), h.row.same fun k hk => setBlock_other w m o (ow_nem h.row h.map k hk), ho, h.sg, h.sm⟩
theorem DV.set_safe {bs n c : Nat} (h : DV w S g d f (.slice (some ⟨bs, 0, none⟩) n c) rv m) (j : Nat) (hj : j < d.safe.length) (s : ByteArray) : DV (w.setCell ⟨bs, j, none⟩ (.string s)) S g { d with safe := d.safe.set j s } f (.slice (some ⟨bs, 0, none⟩) n c) rv m := by
  have hn : n = d.safe.length := by
    obtain ⟨A, c', e, _⟩ := h.safe.shape
    injection e
  subst hn
  have hne := ow_ne h.safe h.blk (by decide) bs rfl
  have hput := h.safe.put j (by omega) (.string s)
  refine ⟨(Below.heap_setCell w ⟨bs, j, none⟩ _ g hne.symm).trans h.blk, ?_, h.row.same fun k hk => Below.heap_setCell w ⟨bs, j, none⟩ _ k (fun e => ow_ne2 h.row h.safe (by decide) k hk (by rw [e]; rfl)), h.map.same (Below.heap_setCell w ⟨bs, j, none⟩ _ m (ow_nem h.safe h.map bs rfl).symm), h.sg, h.sm⟩
  show Ow _ S TS 1 _ (d.safe.set j s).length ((d.safe.set j s).map .string)
  rw [List.length_set, List.map_set]
  exact hput
/-- The cells of its block. -/
theorem DV.cells (h : DV w S g d f sv rv m) : (w.cell? ⟨g, 0, none⟩ = some sv ∧ w.cell? ⟨g, 1, none⟩ = some rv ∧ w.cell? ⟨g, 2, none⟩ = some (.map (some m)) ∧ w.cell? ⟨g, 3, none⟩ = some (.bool d.gone) ∧ w.cell? ⟨g, 4, none⟩ = some (.int .i64 d.fuse)) ∧ (∀ i, w.frozen? ⟨g, i, none⟩ = false) := by
  have hb := h.blk
  refine ⟨⟨?_, ?_, ?_, ?_, ?_⟩, fun i => ?_⟩
  all_goals (simp only [World.cell?, World.frozen?, hb]; try rfl)
end
theorem DV.dk {w : World} {S : Nat → Prop} {g : Nat} {d : DS} {sv rv : Value} {m : Nat} (h : DV w S g d (lastOf d.row) sv rv m) : DK w S g d := ⟨sv, rv, m, h⟩
theorem DK.lt {w : World} {S : Nat → Prop} {g : Nat} {d : DS} (h : DK w S g d) : g < w.heap.size := by obtain ⟨_, _, _, h⟩ := h; exact h.lt
theorem DK.mono {w : World} {S S2 : Nat → Prop} {g : Nat} {d : DS} (h : DK w S g d) (hs : ∀ k, k < w.heap.size → S k → S2 k) : DK w S2 g d := by obtain ⟨a, b, c, h⟩ := h; exact ⟨a, b, c, h.mono hs⟩
theorem DK.kept {w w' : World} {S S2 : Nat → Prop} {g : Nat} {d : DS} (h : DK w S g d) (hf : FS S2 w w') (hd : ∀ k, S k → ¬ S2 k) : DK w' S g d := by obtain ⟨a, b, c, h⟩ := h; exact ⟨a, b, c, h.kept hf hd⟩
theorem DK.below {w w' : World} {S : Nat → Prop} {g : Nat} {d : DS} (h : DK w S g d) (hb : Below w.heap.size w w') : DK w' S g d := by obtain ⟨a, b, c, h⟩ := h; exact ⟨a, b, c, h.below hb⟩
theorem DK.drew {w : World} {S : Nat → Prop} {g : Nat} {d : DS} (h : DK w S g d) : DK w.drew S g d := h.below ((Below.refl _ _).drew)
/-- What the words do. -/
def OkD (d : DS) : Prop := d.row.length ≤ 1000000 ∧ -1 ≤ d.fuse ∧ d.fuse < 9223372036854775808 ∧ d.safe.length ≤ 512 ∧ ∀ p ∈ d.row, 0 ≤ p.1 ∧ p.1 < d.safe.length
theorem last_mem : ∀ {row : List (Int × ByteArray)} {k : Int} {s : ByteArray}, lastOf row k = some s → (k, s) ∈ row := by
  intro row k s h
  have gen : ∀ (l : List (Int × ByteArray)) (o : Option ByteArray), l.foldl (fun o p => if k = p.1 then some p.2 else o) o = some s → (k, s) ∈ l ∨ o = some s := by
    intro l
    induction l with
    | nil => intro o h; exact .inr h
    | cons p r ih =>
      intro o h
      rcases ih _ h with h1 | h1
      · exact .inl (List.mem_cons_of_mem _ h1)
      · replace h1 : (if k = p.1 then some p.2 else o) = some s := h1
        by_cases e : k = p.1
        · rw [if_pos e] at h1
          injection h1 with h1
          left
          rw [e, ← h1]
          exact List.mem_cons_self
        · rw [if_neg e] at h1
          exact .inr h1
  rcases gen row none h with h | h
  · exact h
  · cases h
def thereD (d : DS) (i : Int) : Bool := decide (0 ≤ i) && decide (i < d.safe.length)
def bearsE (d : DS) : Int := if d.gone = true ∨ d.fuse = 0 then 4 else 0
def bearsD (d : DS) : DS := if d.gone = true then d else if d.fuse = 0 then { d with gone := true } else if 0 < d.fuse then { d with fuse := d.fuse - 1 } else d
def pushD (d : DS) (i : Int) (s : ByteArray) : DS := { d with row := d.row ++ [(i, s)] }
def writeE (d : DS) (i : Int) (s : ByteArray) : Int := if thereD d i = false then 2 else if s.size ≠ 128 then 1 else bearsE d
def writeD (d : DS) (i : Int) (s : ByteArray) : DS := if thereD d i = false then d else if s.size ≠ 128 then d else if bearsE d ≠ 0 then bearsD d else pushD (bearsD d) i s
def overF (f : Int → Option ByteArray) (safe : List ByteArray) : List ByteArray := safe.mapIdx fun i s => (f i).getD s
def settleD (d : DS) : DS := { d with row := [] }
def syncE (d : DS) : Int := bearsE d
def syncD (d : DS) : DS := if bearsE d ≠ 0 then bearsD d else settleD { bearsD d with safe := overF (lastOf d.row) d.safe }
def readE (d : DS) (i : Int) : Int := if d.gone = true then 4 else if thereD d i = false then 2 else 0
def readS (d : DS) (i : Int) : ByteArray := if readE d i ≠ 0 then ⟨#[]⟩ else (lastOf d.row i).getD ((d.safe[i.toNat]?).getD ⟨#[]⟩)
theorem bears_eq (d : DS) : bearsD d = { d with gone := (bearsD d).gone, fuse := (bearsD d).fuse } := by
  unfold bearsD
  split
  · rfl
  · split
    · rfl
    · split <;> rfl
theorem bears_row (d : DS) : (bearsD d).row = d.row := by rw [bears_eq]
theorem bears_safe (d : DS) : (bearsD d).safe = d.safe := by rw [bears_eq]
end Go.Proofs.Ytbdfdfahpdilpaa.Dk

/-! Layer 3: a disk's small functions. -/
namespace Go.Proofs.Ytbdfdfahpdilpaa.Dk
open Go Go.RowKit Go.ChangeMaps Go.Proofs.Ytbdfdfahpdilpaa.Arr Go.Proofs.Ytbdfdfahpdilpaa.Mp Go.Proofs.Ytbdfdfahpdilpaa.Ow Go.Proofs.YtbdfdfahpdilpaaW.PrintWords Go.Proofs.YtbdfdfahpdilpaaW.PrintLast Go.Proofs.YtbdfdfahpdilpaaW.PrintMore
set_option linter.unusedVariables false
set_option linter.unusedSimpArgs false
theorem there_calls (d : DS) (g : Nat) (i : Int) (S : Nat → Prop) (w : World) (h : DK w S g d) (ho : OkD d) : Calls Try.prog 40 #[.pointer (some ⟨g, 0, none⟩), .int .i64 i] w (fun e w' => e = .returned (.bool (thereD d i)) ∧ Below w.heap.size w w') := by
  obtain ⟨sv, rv, m, hv⟩ := h
  obtain ⟨A, c, rfl, _, _, _⟩ := hv.safe.shape
  have HV := Aside0.mk hv; clear hv
  obtain ⟨⟨c0, c1, c2, c3, c4⟩, fr_⟩ := HV.out.cells; have f0 := fr_ 0; have f1 := fr_ 1; have f2 := fr_ 2; have f3 := fr_ 3; have f4 := fr_ 4; clear fr_
  rcases Int.lt_or_le i 0 with h0 | h0
  · have e : thereD d i = false := by unfold thereD; rw [decide_eq_false (by omega)]; rfl
    rw [e]
    have t1 : decide (0 ≤ i) = false := decide_eq_false (by omega)
    clear h0 e
    go_enter Try.func40, Try.ntmps40
    go_wp2
    go_ret
    exact ⟨rfl, Below.refl _ _⟩
  · have e : thereD d i = decide (i < d.safe.length) := by unfold thereD; rw [decide_eq_true h0]; rfl
    rw [e]
    have t1 : decide (0 ≤ i) = true := decide_eq_true h0
    clear h0 e
    go_enter Try.func40, Try.ntmps40
    go_wp2
    go_ret
    exact ⟨rfl, Below.refl _ _⟩
theorem bears_calls (d : DS) (g : Nat) (S : Nat → Prop) (w : World) (h : DK w S g d) (ho : OkD d) : Calls Try.prog 41 #[.pointer (some ⟨g, 0, none⟩)] w fun e w' => e = .returned (.int .i64 (bearsE d)) ∧ DK w' S g (bearsD d) ∧ FS S w w' := by
  obtain ⟨sv, rv, m, hv⟩ := h
  have HV := Aside0.mk hv; clear hv
  obtain ⟨⟨c0, c1, c2, c3, c4⟩, fr_⟩ := HV.out.cells; have f0 := fr_ 0; have f1 := fr_ 1; have f2 := fr_ 2; have f3 := fr_ 3; have f4 := fr_ 4; clear fr_
  cases hg : d.gone with
  | true =>
    have e1 : bearsE d = 4 := by simp [bearsE, hg]
    have e2 : bearsD d = d := by simp [bearsD, hg]
    rw [e1, e2]
    rw [hg] at c3
    clear e1 e2 hg
    go_enter Try.func41, Try.ntmps41
    go_wp2
    go_ret
    exact ⟨rfl, ⟨sv, rv, m, HV.out⟩, FS.refl _ _⟩
  | false =>
    rw [hg] at c3
    by_cases h0 : d.fuse = 0
    · have e1 : bearsE d = 4 := by simp [bearsE, h0]
      have e2 : bearsD d = { d with gone := true } := by simp [bearsD, hg, h0]
      rw [e1, e2]
      have t1 : (d.fuse == 0) = true := by simp [h0]
      clear e1 e2 hg h0
      go_enter Try.func41, Try.ntmps41
      go_wp2
      go_ret
      exact ⟨rfl, ⟨sv, rv, m, HV.out.set_gone true⟩, (FS.refl _ _).setCell (.inl HV.out.sg) _⟩
    · have t1 : (d.fuse == 0) = false := by simp [h0]
      by_cases hp : 0 < d.fuse
      · have e1 : bearsE d = 0 := by simp [bearsE, hg, h0]
        have e2 : bearsD d = { d with fuse := d.fuse - 1 } := by simp [bearsD, hg, h0, hp]
        rw [e1, e2]
        have t2 : decide (0 < d.fuse) = true := decide_eq_true hp
        have hw : wrap64 (d.fuse - 1) = d.fuse - 1 := by have := ho.2.2.1; unfold wrap64; omega
        clear e1 e2 hg h0 hp ho
        go_enter Try.func41, Try.ntmps41
        go_wp2
        go_ret
        exact ⟨rfl, ⟨sv, rv, m, HV.out.set_fuse _⟩, (FS.refl _ _).setCell (.inl HV.out.sg) _⟩
      · have e1 : bearsE d = 0 := by simp [bearsE, hg, h0]
        have e2 : bearsD d = d := by simp [bearsD, hg, h0, hp]
        rw [e1, e2]
        have t2 : decide (0 < d.fuse) = false := decide_eq_false hp
        clear e1 e2 hg h0 hp ho
        go_enter Try.func41, Try.ntmps41
        go_wp2
        go_ret
        exact ⟨rfl, ⟨sv, rv, m, HV.out⟩, FS.refl _ _⟩
theorem settle_calls (d : DS) (g : Nat) (S : Nat → Prop) (w : World) (sv rv : Value) (m : Nat) (f : Int → Option ByteArray) (h : DV w S g d f sv rv m) : Calls Try.prog 42 #[.pointer (some ⟨g, 0, none⟩)] w fun e w' => e = .returned (.tuple #[]) ∧ DK w' S g (settleD d) ∧ FS S w w' := by
  have HV := Aside0.mk h; clear h
  obtain ⟨⟨c0, c1, c2, c3, c4⟩, fr_⟩ := HV.out.cells; have f0 := fr_ 0; have f1 := fr_ 1; have f2 := fr_ 2; have f3 := fr_ 3; have f4 := fr_ 4; clear fr_
  go_enter Try.func42, Try.ntmps42
  go_upto_region 1 with (fail)
  have v_ := HV.out.set_row (row' := []) (Ow.nil w S TW 2)
  have F := Aside0.mk ((FS.refl S w).setCell (p := ⟨g, 1, none⟩) (.inl HV.out.sg) (.slice none 0 0))
  clear HV c0 c1 c2 c3 c4 f0 f1 f2 f3 f4
  generalize hW : w.setCell ⟨g, 1, none⟩ (.slice none 0 0) = W at *
  clear hW
  have HV := Aside0.mk v_; clear v_
  obtain ⟨⟨c0, c1, c2, c3, c4⟩, fr_⟩ := HV.out.cells; have f0 := fr_ 0; have f1 := fr_ 1; have f2 := fr_ 2; have f3 := fr_ 3; have f4 := fr_ 4; clear fr_
  obtain ⟨o, hrun, hmp⟩ := run_clear_mp (P := Try.prog) (t := 78) (k := 3) (e := 9) (by kernel_rfl) HV.out.map 0
  have HM := Aside0.mk hmp; clear hmp
  go_wp2
  (try simp only [Exit.inBlock, Exit.then])
  refine bodyPost_end (results_none rfl _ _ _) rfl ?_
  exact ⟨rfl, ⟨sv, .slice none 0 0, m, HV.out.set_map HM.out⟩, F.out.setBlock (.inl HV.out.sm) o⟩
end Go.Proofs.Ytbdfdfahpdilpaa.Dk

/-! Layer 3: Write. -/
namespace Go.Proofs.Ytbdfdfahpdilpaa.Dk
open Go Go.RowKit Go.ChangeMaps Go.Proofs.Ytbdfdfahpdilpaa.Arr Go.Proofs.Ytbdfdfahpdilpaa.Mp Go.Proofs.Ytbdfdfahpdilpaa.Ow Go.Proofs.YtbdfdfahpdilpaaW.PrintWords Go.Proofs.YtbdfdfahpdilpaaW.PrintLast Go.Proofs.YtbdfdfahpdilpaaW.PrintMore
set_option linter.unusedVariables false
set_option linter.unusedSimpArgs false
theorem infoW : (Try.prog.info? TW).map (fun i => (i.zero, i.size, i.bytes)) = some (some (.agg #[.int .i64 0, .string ⟨#[]⟩]), 2, 24) := by kernel_rfl
theorem append_row {w : World} {S : Nat → Prop} {rv : Value} (row : List (Int × ByteArray)) (i : Int) (s : ByteArray) (h : Ow w S TW 2 rv row.length (wc row)) {g0 : Nat} (hg : w.heap[g0]? = some (.cells #[.int .i64 i, .string s] TW (0, 0))) (hl : row.length ≤ 1000000) (ty : TypeId) :
    ∃ v' w', (Builtin.append_ #[79, 79] ty #[rv, .slice (some ⟨g0, 0, none⟩) 1 1]).run Try.prog w = .ok v' w' ∧ Ow w' (fun k => S k ∨ k = w.heap.size) TW 2 v' (row ++ [(i, s)]).length (wc (row ++ [(i, s)])) ∧ w.grownBy w' rv.ownBlock ∧ (v'.ownBlock = rv.ownBlock ∨ v'.ownBlock = some w.heap.size) ∧ ∃ g' c', v' = .slice (some ⟨g', 0, none⟩) (row.length + 1) c' := by
  obtain ⟨i0, hi, h2⟩ := Option.map_eq_some_iff.1 infoW
  have hz : i0.zero = some (.agg #[.int .i64 0, .string ⟨#[]⟩]) := congrArg Prod.fst h2
  have hs : i0.size = 2 := congrArg (fun p => p.2.1) h2
  have hb : i0.bytes = 24 := congrArg (fun p => p.2.2) h2
  have r := run_append_ow (P := Try.prog) (ty := ty) 79 TW i0 _ 2 24 (by kernel_rfl) hi hz hs hb rfl (by decide) rv row.length _ h ⟨g0, 0, none⟩ 1 1 [.int .i64 i, .string s] rfl (fun j u hj => ?_) (fun u hu => ?_) (by simp only [maxLen]; omega) (by omega) (by decide)
  · rw [wc_push, List.length_append]
    exact r
  · match j with
    | 0 => exact (blk_cell hg 0).trans (by simpa using hj)
    | 1 => exact (blk_cell hg 1).trans (by simpa using hj)
    | j + 2 => simp at hj
  · rcases List.mem_cons.1 hu with rfl | hu
    · rfl
    · rcases List.mem_cons.1 hu with rfl | hu
      · rfl
      · cases hu
theorem grown_blk {w w' : World} {row : Option Nat} (h : w.grownBy w' row) {g : Nat} {o : Obj} (hg : w.heap[g]? = some o) (hn : row ≠ some g) : w'.heap[g]? = some o := by
  have hl : g < w.heap.size := by
    rcases Nat.lt_or_ge g w.heap.size with h1 | h1
    · exact h1
    · simp [Array.getElem?_eq_none h1] at hg
  exact (h.block g hl (fun e => hn e.symm)).trans hg
theorem DV.grown {w w' : World} {S : Nat → Prop} {g : Nat} {d : DS} {f : Int → Option ByteArray} {sv rv rv' : Value} {m : Nat} {row' : List (Int × ByteArray)} (h : DV w S g d f sv rv m) (hg : w.grownBy w' rv.ownBlock) (hr : Ow w' S TW 2 rv' row'.length (wc row')) :
    w'.heap[g]? = some (.cells #[sv, rv, .map (some m), .bool d.gone, .int .i64 d.fuse] TD (0, 0)) ∧ DV (w'.setCell ⟨g, 1, none⟩ rv') S g { d with row := row' } f sv rv' m := by
  have hb := grown_blk hg h.blk (fun e => ow_ne h.row h.blk (by decide) g e rfl)
  refine ⟨hb, ?_⟩
  have hs : Ow w' S TS 1 sv d.safe.length (d.safe.map .string) := h.safe.same fun k hk => hg.block k (h.safe.own.lt k hk).2 (fun e => ow_ne2 h.safe h.row (by decide) k hk e.symm)
  have hm : MP w' m f := h.map.same (hg.block m h.map.lt (fun e => ow_nem h.row h.map m e.symm rfl))
  have hb2 : (w'.setCell ⟨g, 1, none⟩ rv').heap[g]? = some (.cells #[sv, rv', .map (some m), .bool d.gone, .int .i64 d.fuse] TD (0, 0)) := by
    simp only [World.setCell]
    rw [Array.getElem?_modify, if_pos rfl, hb]
    rfl
  exact ⟨hb2, hs.same fun k hk => Below.heap_setCell w' ⟨g, 1, none⟩ rv' k (ow_ne hs hb (by decide) k hk), hr.same fun k hk => Below.heap_setCell w' ⟨g, 1, none⟩ rv' k (ow_ne hr hb (by decide) k hk), hm.same (Below.heap_setCell w' ⟨g, 1, none⟩ rv' m (MP.ne_cells hm hb)), h.sg, h.sm⟩
set_option maxHeartbeats 4000000 in
theorem write_calls (d : DS) (g : Nat) (i : Int) (s : ByteArray) (S : Nat → Prop) (w : World) (hS : Top S w) (h : DK w S g d) (ho : OkD d) : Calls Try.prog 16 #[.pointer (some ⟨g, 0, none⟩), .int .i64 i, .string s] w fun e w' => e = .returned (.int .i64 (writeE d i s)) ∧ DK w' S g (writeD d i s) ∧ FS S w w' := by
  obtain ⟨sv, rv, m, hv⟩ := h
  have HV := Aside0.mk hv; have HO := Aside0.mk ho; have HS := Aside0.mk hS; clear hv ho hS
  obtain ⟨⟨c0, c1, c2, c3, c4⟩, fr_⟩ := HV.out.cells; have f0 := fr_ 0; have f1 := fr_ 1; have f2 := fr_ 2; have f3 := fr_ 3; have f4 := fr_ 4; clear fr_
  cases hT : thereD d i with
  | false =>
    have e1 : writeE d i s = 2 := by simp [writeE, hT]
    have e2 : writeD d i s = d := by simp [writeD, hT]
    rw [e1, e2]
    clear e1 e2
    go_enter Try.func16, Try.ntmps16
    go_wp2_with (go_at_call 40; with_reducible refine (there_calls d g i S _ HV.out.dk HO.out).mono ?_; rintro e w1 ⟨rfl, hb1⟩; have v_ := HV.out.below hb1; have F_ := (FS.refl S w).below hb1; clear HV hb1; have HV := Aside0.mk v_; have F := Aside0.mk F_; clear v_ F_ c0 c1 c2 c3 c4 f0 f1 f2 f3 f4; obtain ⟨⟨c0, c1, c2, c3, c4⟩, fr_⟩ := HV.out.cells; have f0 := fr_ 0; have f1 := fr_ 1; have f2 := fr_ 2; have f3 := fr_ 3; have f4 := fr_ 4; clear fr_)
    go_ret
    exact ⟨rfl, ⟨sv, rv, m, HV.out⟩, F.out⟩
  | true =>
    by_cases h128 : s.size = 128
    · have t2 : ((s.size : Int) == 128) = true := by simp [h128]
      rcases (show bearsE d = 4 ∨ bearsE d = 0 by unfold bearsE; split <;> simp) with hE | hE
      · have e1 : writeE d i s = 4 := by simp [writeE, hT, h128, hE]
        have e2 : writeD d i s = bearsD d := by simp [writeD, hT, h128, hE]
        rw [e1, e2]
        clear e1 e2 h128
        go_enter Try.func16, Try.ntmps16
        go_wp2_with (first | (go_at_call 40; with_reducible refine (there_calls d g i S _ HV.out.dk HO.out).mono ?_; rintro e w1 ⟨rfl, hb1⟩; have v_ := HV.out.below hb1; have F_ := (FS.refl S w).below hb1; clear HV hb1; have HV := Aside0.mk v_; have F := Aside0.mk F_; clear v_ F_ c0 c1 c2 c3 c4 f0 f1 f2 f3 f4; obtain ⟨⟨c0, c1, c2, c3, c4⟩, fr_⟩ := HV.out.cells; have f0 := fr_ 0; have f1 := fr_ 1; have f2 := fr_ 2; have f3 := fr_ 3; have f4 := fr_ 4; clear fr_) | (go_at_call 41; with_reducible refine (bears_calls d g S _ HV.out.dk HO.out).mono ?_; rintro e w2 ⟨rfl, hk2, hf2⟩; have F_ := F.out.trans hf2; clear HV F hf2; have F := Aside0.mk F_; have HK := Aside0.mk hk2; clear F_ hk2 c0 c1 c2 c3 c4 f0 f1 f2 f3 f4))
        go_ret
        exact ⟨rfl, HK.out, F.out⟩
      · have e1 : writeE d i s = 0 := by simp [writeE, hT, h128, hE]
        have e2 : writeD d i s = pushD (bearsD d) i s := by simp [writeD, hT, h128, hE]
        rw [e1, e2]
        clear e1 e2 h128
        go_enter Try.func16, Try.ntmps16
        go_upto_region 10 with (first | (go_at_call 40; with_reducible refine (there_calls d g i S _ HV.out.dk HO.out).mono ?_; rintro e w1 ⟨rfl, hb1⟩; have v_ := HV.out.below hb1; have F_ := (FS.refl S w).below hb1; clear HV hb1; have HV := Aside0.mk v_; have F := Aside0.mk F_; clear v_ F_ c0 c1 c2 c3 c4 f0 f1 f2 f3 f4; obtain ⟨⟨c0, c1, c2, c3, c4⟩, fr_⟩ := HV.out.cells; have f0 := fr_ 0; have f1 := fr_ 1; have f2 := fr_ 2; have f3 := fr_ 3; have f4 := fr_ 4; clear fr_) | (go_at_call 41; with_reducible refine (bears_calls d g S _ HV.out.dk HO.out).mono ?_; rintro e w2 ⟨rfl, hk2, hf2⟩; have F_ := F.out.trans hf2; clear HV F hf2; have F := Aside0.mk F_; have HK := Aside0.mk hk2; clear F_ hk2 c0 c1 c2 c3 c4 f0 f1 f2 f3 f4))
        obtain ⟨sv, rv, m, hv⟩ := HK.out
        clear HK
        have hrow := bears_row d
        rw [hrow] at hv
        have L := Aside0.mk (show (bearsD d).row.length ≤ 1000000 by rw [hrow]; exact HO.out.1)
        have HF := Aside0.mk hrow
        clear hrow
        generalize hD : bearsD d = d2 at hv L HF
        have HD := Aside0.mk hD; clear hD
        have HV := Aside0.mk hv; clear hv
        obtain ⟨⟨c0, c1, c2, c3, c4⟩, fr_⟩ := HV.out.cells; have f0 := fr_ 0; have f1 := fr_ 1; have f2 := fr_ 2; have f3 := fr_ 3; have f4 := fr_ 4; clear fr_
        have hrw := (HV.out.below ((Below.refl w2.heap.size w2).alloc (Nat.le_refl _) (.cells #[.int .i64 i, .string s] TW))).row
        obtain ⟨rv', W4, hrun, how, hgr, hsame, g', c', hrv⟩ := append_row d2.row i s hrw (heap_alloc_new w2 _) L.out 79
        have hF3 := (F.out.alloc (.cells #[.int .i64 i, .string s] TW)).grown hgr (fun k hk => .inl (HV.out.row.mem k hk))
        have hv3 : DV (w2.alloc (.cells #[.int .i64 i, .string s] TW)) S g d2 (lastOf d.row) sv rv m := HV.out.below ((Below.refl _ _).alloc (Nat.le_refl _) _)
        have hb4 := hv3.grown hgr (how.mono (fun k _ hk => hk.elim id (fun e => HS.out k (by rw [e]; have := F.out.size; simp; omega))))
        have k1 : W4.cell? ⟨g, 1, none⟩ = some rv := (blk_cell hb4.1 1); have k2 : W4.frozen? ⟨g, 1, none⟩ = false := blk_frozen hb4.1 1
        have HG := Aside0.mk hb4.2; have HF3 := Aside0.mk (hF3.setCell (p := ⟨g, 1, none⟩) (.inl HV.out.sg) rv')
        clear hv3 hgr how hF3 hrw hb4 hsame
        subst hrv
        have HR := Aside0.mk hrun; clear hrun
        go_upto_region 11 with ((with_reducible refine gate_builtin (b := .append) (xs := #[.tmp 29, .tmp 33]) rfl ?_); at_builtin; refine ev_append (.tmp 29) (.tmp 33) 79 rfl rfl _ _ rfl rfl HR.out ?_)
        clear c0 c1 c2 c3 c4 f0 f1 f2 f3 f4 k1 k2 HV F HR
        generalize hW : W4.setCell ⟨g, 1, none⟩ (.slice (some ⟨g', 0, none⟩) (d2.row.length + 1) c') = W at *
        clear hW
        have HV := HG; have F := HF3; clear HG HF3
        obtain ⟨⟨c0, c1, c2, c3, c4⟩, fr_⟩ := HV.out.cells; have f0 := fr_ 0; have f1 := fr_ 1; have f2 := fr_ 2; have f3 := fr_ 3; have f4 := fr_ 4; clear fr_
        obtain ⟨o, hrun, hmp⟩ := run_update_mp (P := Try.prog) (t := 78) (k := 3) (e := 9) (by kernel_rfl) (by kernel_rfl) HV.out.map i s
        have HM := Aside0.mk hmp; clear hmp
        go_wp2
        go_ret
        refine ⟨rfl, ⟨sv, .slice (some ⟨g', 0, none⟩) (d2.row.length + 1) c', m, ?_⟩, F.out.setBlock (.inl HV.out.sm) o⟩
        have q := HV.out.set_map HM.out
        rw [← last_push, ← HF.out] at q
        rw [HD.out]
        exact q
    · have t2 : ((s.size : Int) == 128) = false := by simp; omega
      have e1 : writeE d i s = 1 := by simp [writeE, hT, h128]
      have e2 : writeD d i s = d := by simp [writeD, hT, h128]
      rw [e1, e2]
      clear e1 e2 h128
      go_enter Try.func16, Try.ntmps16
      go_wp2_with (go_at_call 40; with_reducible refine (there_calls d g i S _ HV.out.dk HO.out).mono ?_; rintro e w1 ⟨rfl, hb1⟩; have v_ := HV.out.below hb1; have F_ := (FS.refl S w).below hb1; clear HV hb1; have HV := Aside0.mk v_; have F := Aside0.mk F_; clear v_ F_ c0 c1 c2 c3 c4 f0 f1 f2 f3 f4; obtain ⟨⟨c0, c1, c2, c3, c4⟩, fr_⟩ := HV.out.cells; have f0 := fr_ 0; have f1 := fr_ 1; have f2 := fr_ 2; have f3 := fr_ 3; have f4 := fr_ 4; clear fr_)
      go_ret
      exact ⟨rfl, ⟨sv, rv, m, HV.out⟩, F.out⟩
end Go.Proofs.Ytbdfdfahpdilpaa.Dk

/-! Layer 3: Read, Arm, Dead, Waiting, Size. -/
namespace Go.Proofs.Ytbdfdfahpdilpaa.Dk
open Go Go.RowKit Go.ChangeMaps Go.Proofs.Ytbdfdfahpdilpaa.Arr Go.Proofs.Ytbdfdfahpdilpaa.Mp Go.Proofs.Ytbdfdfahpdilpaa.Ow Go.Proofs.YtbdfdfahpdilpaaW.PrintWords Go.Proofs.YtbdfdfahpdilpaaW.PrintLast Go.Proofs.YtbdfdfahpdilpaaW.PrintMore
set_option linter.unusedVariables false
set_option linter.unusedSimpArgs false
set_option maxHeartbeats 4000000 in
theorem read_calls (d : DS) (g : Nat) (i : Int) (S : Nat → Prop) (w : World) (h : DK w S g d) (ho : OkD d) : Calls Try.prog 19 #[.pointer (some ⟨g, 0, none⟩), .int .i64 i] w fun e w' => e = .returned (.tuple #[.string (readS d i), .int .i64 (readE d i)]) ∧ Below w.heap.size w w' := by
  obtain ⟨sv, rv, m, hv⟩ := h
  have HV := Aside0.mk hv; have HO := Aside0.mk ho; have F := Aside0.mk (Below.refl w.heap.size w); clear hv ho
  obtain ⟨⟨c0, c1, c2, c3, c4⟩, fr_⟩ := HV.out.cells; have f0 := fr_ 0; have f1 := fr_ 1; have f2 := fr_ 2; have f3 := fr_ 3; have f4 := fr_ 4; clear fr_
  cases hg : d.gone with
  | true =>
    have e1 : readE d i = 4 := by simp [readE, hg]
    have e2 : readS d i = ⟨#[]⟩ := by simp [readS, e1]
    rw [e1, e2]
    rw [hg] at c3
    clear e1 e2 hg
    go_enter Try.func19, Try.ntmps19
    go_wp2
    go_ret2
    exact ⟨rfl, F.out⟩
  | false =>
    rw [hg] at c3
    cases hT : thereD d i with
    | false =>
      have e1 : readE d i = 2 := by simp [readE, hg, hT]
      have e2 : readS d i = ⟨#[]⟩ := by simp [readS, e1]
      rw [e1, e2]
      have HG := Aside0.mk hg
      clear e1 e2 hg
      go_enter Try.func19, Try.ntmps19
      go_wp2_with (go_at_call 40; with_reducible refine (there_calls d g i S _ HV.out.dk HO.out).mono ?_; rintro e w1 ⟨rfl, hb1⟩; have v_ := HV.out.below hb1; have F_ := F.out.trans hb1; clear HV F hb1; have HV := Aside0.mk v_; have F := Aside0.mk F_; clear v_ F_ c0 c1 c2 c3 c4 f0 f1 f2 f3 f4; obtain ⟨⟨c0, c1, c2, c3, c4⟩, fr_⟩ := HV.out.cells; have f0 := fr_ 0; have f1 := fr_ 1; have f2 := fr_ 2; have f3 := fr_ 3; have f4 := fr_ 4; clear fr_)
      go_ret2
      exact ⟨rfl, F.out⟩
    | true =>
      have e1 : readE d i = 0 := by simp [readE, hg, hT]
      have hi : 0 ≤ i ∧ i < d.safe.length := by simpa [thereD] using hT
      obtain ⟨s0, hs0⟩ : ∃ s0, d.safe[i.toNat]? = some s0 := ⟨_, List.getElem?_eq_getElem (by omega)⟩
      have e2 : readS d i = (lastOf d.row i).getD s0 := by simp [readS, e1, hs0]
      rw [e1, e2]
      have HG := Aside0.mk hg
      obtain ⟨bs, c, cur, rfl, _, hb, _, _, _, htk⟩ := HV.out.safe.open (by omega)
      have HC := Aside0.mk (show ∀ W : World, W.heap[bs]? = w.heap[bs]? → W.cell? ⟨bs, i.toNat, none⟩ = some (.string s0) from fun (W : World) hW => cell_of (xs := d.safe.map .string) (n := d.safe.length * 1) (hW.trans hb) htk (by rw [List.getElem?_map, hs0]; rfl))
      have hbl := Aside0.mk (blk_lt hb)
      clear e1 e2 hg hs0 hb htk
      have i0 := hi.1; have i1 := hi.2; clear hi
      go_enter Try.func19, Try.ntmps19
      go_upto_region 7 with (go_at_call 40; with_reducible refine (there_calls d g i S _ HV.out.dk HO.out).mono ?_; rintro e w1 ⟨rfl, hb1⟩; have v_ := HV.out.below hb1; have F_ := F.out.trans hb1; clear HV F hb1; have HV := Aside0.mk v_; have F := Aside0.mk F_; clear v_ F_ c0 c1 c2 c3 c4 f0 f1 f2 f3 f4; obtain ⟨⟨c0, c1, c2, c3, c4⟩, fr_⟩ := HV.out.cells; have f0 := fr_ 0; have f1 := fr_ 1; have f2 := fr_ 2; have f3 := fr_ 3; have f4 := fr_ 4; clear fr_)
      have hl := run_lookup_mp (P := Try.prog) (t := 78) (k := 3) (e := 9) (by kernel_rfl) (by kernel_rfl) (fun w => by kernel_rfl) HV.out.map i
      have hcell := HC.out w1 (F.out.block bs hbl.out)
      cases hq : lastOf d.row i with
      | some x =>
        rw [hq] at hl
        simp only [Option.isSome_some, Option.getD_some] at hl ⊢
        have HQ := Aside0.mk hq; clear hq
        go_wp2
        go_ret2
        exact ⟨by rw [HQ.out]; rfl, F.out⟩
      | none =>
        rw [hq] at hl
        simp only [Option.isSome_none, Option.getD_none] at hl ⊢
        have HQ := Aside0.mk hq; clear hq
        go_wp2
        go_ret2
        exact ⟨by rw [HQ.out]; rfl, F.out⟩
theorem arm_calls (d : DS) (g : Nat) (k : Int) (S : Nat → Prop) (w : World) (h : DK w S g d) : Calls Try.prog 23 #[.pointer (some ⟨g, 0, none⟩), .int .i64 k] w fun e w' => e = .returned (.tuple #[]) ∧ DK w' S g { d with fuse := max k (-1) } ∧ FS S w w' := by
  obtain ⟨sv, rv, m, hv⟩ := h
  have HV := Aside0.mk hv; clear hv
  obtain ⟨⟨c0, c1, c2, c3, c4⟩, fr_⟩ := HV.out.cells; have f0 := fr_ 0; have f1 := fr_ 1; have f2 := fr_ 2; have f3 := fr_ 3; have f4 := fr_ 4; clear fr_
  go_enter Try.func23, Try.ntmps23
  go_wp2
  (try simp only [Exit.inBlock, Exit.then])
  refine bodyPost_end (results_none rfl _ _ _) rfl ?_
  exact ⟨rfl, ⟨sv, rv, m, HV.out.set_fuse _⟩, (FS.refl _ _).setCell (.inl HV.out.sg) _⟩
theorem dead_calls (d : DS) (g : Nat) (S : Nat → Prop) (w : World) (h : DK w S g d) : Calls Try.prog 22 #[.pointer (some ⟨g, 0, none⟩)] w fun e w' => e = .returned (.bool d.gone) ∧ Below w.heap.size w w' := by
  obtain ⟨sv, rv, m, hv⟩ := h
  obtain ⟨A, c, rfl, _⟩ := hv.safe.shape
  obtain ⟨A1, c1, rfl, _⟩ := hv.row.shape
  have HV := Aside0.mk hv; clear hv
  obtain ⟨⟨c0, c1, c2, c3, c4⟩, fr_⟩ := HV.out.cells; have f0 := fr_ 0; have f1 := fr_ 1; have f2 := fr_ 2; have f3 := fr_ 3; have f4 := fr_ 4; clear fr_
  go_enter Try.func22, Try.ntmps22
  go_wp2
  go_ret
  exact ⟨rfl, Below.refl _ _⟩
theorem waiting_calls (d : DS) (g : Nat) (S : Nat → Prop) (w : World) (h : DK w S g d) : Calls Try.prog 21 #[.pointer (some ⟨g, 0, none⟩)] w fun e w' => e = .returned (.int .i64 d.row.length) ∧ Below w.heap.size w w' := by
  obtain ⟨sv, rv, m, hv⟩ := h
  obtain ⟨A, c, rfl, _⟩ := hv.safe.shape
  obtain ⟨A1, c1, rfl, _⟩ := hv.row.shape
  have HV := Aside0.mk hv; clear hv
  obtain ⟨⟨c0, c1, c2, c3, c4⟩, fr_⟩ := HV.out.cells; have f0 := fr_ 0; have f1 := fr_ 1; have f2 := fr_ 2; have f3 := fr_ 3; have f4 := fr_ 4; clear fr_
  go_enter Try.func21, Try.ntmps21
  go_wp2
  go_ret
  exact ⟨rfl, Below.refl _ _⟩
theorem size_calls (d : DS) (g : Nat) (S : Nat → Prop) (w : World) (h : DK w S g d) : Calls Try.prog 31 #[.pointer (some ⟨g, 0, none⟩)] w fun e w' => e = .returned (.int .i64 d.safe.length) ∧ Below w.heap.size w w' := by
  obtain ⟨sv, rv, m, hv⟩ := h
  obtain ⟨A, c, rfl, _⟩ := hv.safe.shape
  obtain ⟨A1, c1, rfl, _⟩ := hv.row.shape
  have HV := Aside0.mk hv; clear hv
  obtain ⟨⟨c0, c1, c2, c3, c4⟩, fr_⟩ := HV.out.cells; have f0 := fr_ 0; have f1 := fr_ 1; have f2 := fr_ 2; have f3 := fr_ 3; have f4 := fr_ 4; clear fr_
  go_enter Try.func31, Try.ntmps31
  go_wp2
  go_ret
  exact ⟨rfl, Below.refl _ _⟩
theorem write_nil (i : Int) (s : ByteArray) (w : World) : Calls Try.prog 16 #[.pointer none, .int .i64 i, .string s] w fun e w' => e = .returned (.int .i64 10) ∧ Below w.heap.size w w' := by
  go_enter Try.func16, Try.ntmps16
  go_wp2
  go_ret
  exact ⟨rfl, Below.refl _ _⟩
theorem sync_nil  (w : World) : Calls Try.prog 18 #[.pointer none] w fun e w' => e = .returned (.int .i64 10) ∧ Below w.heap.size w w' := by
  go_enter Try.func18, Try.ntmps18
  go_wp2
  go_ret
  exact ⟨rfl, Below.refl _ _⟩
theorem read_nil (i : Int) (w : World) : Calls Try.prog 19 #[.pointer none, .int .i64 i] w fun e w' => e = .returned (.tuple #[.string ⟨#[]⟩, .int .i64 10]) ∧ Below w.heap.size w w' := by
  go_enter Try.func19, Try.ntmps19
  go_wp2
  go_ret2
  exact ⟨rfl, Below.refl _ _⟩
theorem crash_nil (v : Value) (w : World) : Calls Try.prog 20 #[.pointer none, v] w fun e w' => e = .returned (.tuple #[]) ∧ Below w.heap.size w w' := by
  go_enter Try.func20, Try.ntmps20
  go_wp2
  first | (refine bodyPost_ret (results_none rfl _ _ _) rfl ?_) | ((try simp only [Exit.inBlock, Exit.then]); refine bodyPost_end (results_none rfl _ _ _) rfl ?_)
  exact ⟨rfl, Below.refl _ _⟩
theorem arm_nil (i : Int) (w : World) : Calls Try.prog 23 #[.pointer none, .int .i64 i] w fun e w' => e = .returned (.tuple #[]) ∧ Below w.heap.size w w' := by
  go_enter Try.func23, Try.ntmps23
  go_wp2
  first | (refine bodyPost_ret (results_none rfl _ _ _) rfl ?_) | ((try simp only [Exit.inBlock, Exit.then]); refine bodyPost_end (results_none rfl _ _ _) rfl ?_)
  exact ⟨rfl, Below.refl _ _⟩
theorem dead_nil  (w : World) : Calls Try.prog 22 #[.pointer none] w fun e w' => e = .returned (.bool false) ∧ Below w.heap.size w w' := by
  go_enter Try.func22, Try.ntmps22
  go_wp2
  go_ret
  exact ⟨rfl, Below.refl _ _⟩
theorem waiting_nil  (w : World) : Calls Try.prog 21 #[.pointer none] w fun e w' => e = .returned (.int .i64 0) ∧ Below w.heap.size w w' := by
  go_enter Try.func21, Try.ntmps21
  go_wp2
  go_ret
  exact ⟨rfl, Below.refl _ _⟩
theorem size_nil  (w : World) : Calls Try.prog 31 #[.pointer none] w fun e w' => e = .returned (.int .i64 0) ∧ Below w.heap.size w w' := by
  go_enter Try.func31, Try.ntmps31
  go_wp2
  go_ret
  exact ⟨rfl, Below.refl _ _⟩
theorem copy_nil  (w : World) : Calls Try.prog 24 #[.pointer none] w fun e w' => e = .returned (.pointer none) ∧ Below w.heap.size w w' := by
  go_enter Try.func24, Try.ntmps24
  go_wp2
  go_ret
  exact ⟨rfl, Below.refl _ _⟩
theorem lose_nil (i : Int) (w : World) : Calls Try.prog 29 #[.pointer none, .int .i64 i] w fun e w' => e = .returned (.int .i64 10) ∧ Below w.heap.size w w' := by
  go_enter Try.func29, Try.ntmps29
  go_wp2
  go_ret
  exact ⟨rfl, (Below.refl _ _).alloc (Nat.le_refl _) _⟩
end Go.Proofs.Ytbdfdfahpdilpaa.Dk

/-! 1 times n, by math/bits (walks as the kit's print makes them). -/
namespace Go.Proofs.Ytbdfdfahpdilpaa.Dk
open Go Go.RowKit Go.Proofs.YtbdfdfahpdilpaaW.PrintWords Go.Proofs.YtbdfdfahpdilpaaW.PrintLast Go.Proofs.YtbdfdfahpdilpaaW.PrintMore
set_option linter.unusedVariables false
set_option linter.unusedSimpArgs false
/-! bits_Mul64 -/
def bits_Mul64.f (a0 : Int) (a1 : Int) : Option (Int × Int) := some (IntKind.u64.wrap ((IntKind.u64.wrap ((IntKind.u64.wrap ((a0 / 4294967296) * (a1 / 4294967296))) + ((IntKind.u64.wrap ((IntKind.u64.wrap ((a0 / 4294967296) * (Go.bits .and .u64 a1 4294967295))) + ((IntKind.u64.wrap ((Go.bits .and .u64 a0 4294967295) * (Go.bits .and .u64 a1 4294967295))) / 4294967296))) / 4294967296))) + ((IntKind.u64.wrap ((Go.bits .and .u64 (IntKind.u64.wrap ((IntKind.u64.wrap ((a0 / 4294967296) * (Go.bits .and .u64 a1 4294967295))) + ((IntKind.u64.wrap ((Go.bits .and .u64 a0 4294967295) * (Go.bits .and .u64 a1 4294967295))) / 4294967296))) 4294967295) + (IntKind.u64.wrap ((Go.bits .and .u64 a0 4294967295) * (a1 / 4294967296))))) / 4294967296)), IntKind.u64.wrap (a0 * a1))
set_option maxHeartbeats 8000000 in
set_option maxRecDepth 100000 in
theorem bits_Mul64.calls (a0 : Int) (a1 : Int) (r1 : Int) (r2 : Int) (w : World) (h : bits_Mul64.f a0 a1 = some (r1, r2)) :
    Calls Try.prog 61 #[.int .u64 a0, .int .u64 a1] w fun e w' => e = .returned (.tuple #[.int .u64 r1, .int .u64 r2]) ∧ Drawn0 w w' := by
  have H : (some (IntKind.u64.wrap ((IntKind.u64.wrap ((IntKind.u64.wrap ((a0 / 4294967296) * (a1 / 4294967296))) + ((IntKind.u64.wrap ((IntKind.u64.wrap ((a0 / 4294967296) * (Go.bits .and .u64 a1 4294967295))) + ((IntKind.u64.wrap ((Go.bits .and .u64 a0 4294967295) * (Go.bits .and .u64 a1 4294967295))) / 4294967296))) / 4294967296))) + ((IntKind.u64.wrap ((Go.bits .and .u64 (IntKind.u64.wrap ((IntKind.u64.wrap ((a0 / 4294967296) * (Go.bits .and .u64 a1 4294967295))) + ((IntKind.u64.wrap ((Go.bits .and .u64 a0 4294967295) * (Go.bits .and .u64 a1 4294967295))) / 4294967296))) 4294967295) + (IntKind.u64.wrap ((Go.bits .and .u64 a0 4294967295) * (a1 / 4294967296))))) / 4294967296)), IntKind.u64.wrap (a0 * a1))) = some (r1, r2) := h
  clear h
  simp only [Option.some.injEq, Prod.mk.injEq] at H
  obtain ⟨rfl, rfl⟩ := H
  go_enter Try.func61, Try.ntmps61
  go_wp2
  go_ret2
  exact ⟨by first | rfl | (simp; done) | (simp [*]; done), by repeat (first | exact Drawn0.refl _ | apply Drawn0.step)⟩

/-! bits_Mul -/
def bits_Mul.f (a0 : Int) (a1 : Int) : Option (Int × Int) := (bits_Mul64.f a0 a1).bind fun bt101 => (some (bt101.1, bt101.2))
set_option maxHeartbeats 8000000 in
set_option maxRecDepth 100000 in
theorem bits_Mul.calls (a0 : Int) (a1 : Int) (r1 : Int) (r2 : Int) (w : World) (h : bits_Mul.f a0 a1 = some (r1, r2)) :
    Calls Try.prog 54 #[.int .u64 a0, .int .u64 a1] w fun e w' => e = .returned (.tuple #[.int .u64 r1, .int .u64 r2]) ∧ Drawn0 w w' := by
  have H : ((bits_Mul64.f a0 a1).bind fun bt101 => (some (bt101.1, bt101.2))) = some (r1, r2) := h
  clear h
  replace H := Option.bind_eq_some_iff.mp H
  obtain ⟨⟨t101, t102⟩, A30, H⟩ := H
  replace H : (some (t101, t102)) = some (r1, r2) := H
  have A3 := Aside0.mk A30
  clear A30
  simp only [Option.some.injEq, Prod.mk.injEq] at H
  obtain ⟨rfl, rfl⟩ := H
  go_enter Try.func54, Try.ntmps54
  go_wp2_with (first | ((with_reducible refine gate_callee (f := 61) rfl ?_); refine goesL_ (some 25) rfl rfl Try.func61 (by kernel_rfl) rfl #[.int .u64 a0, .int .u64 a1] rfl (by (try simp only [List.map_toArray, List.map_cons, List.map_nil]); first | done | rfl | (simp only [List.length_drop, List.length_take]; rfl)) ?_; (with_reducible refine (bits_Mul64.calls a0 a1 t101 t102 _ A3.out).mono ?_); rintro e w' ⟨rfl, ⟨nd, rfl⟩⟩; refine ⟨_, rfl, ?_⟩))
  go_ret2
  exact ⟨by first | rfl | (simp; done) | (simp [*]; done), by repeat (first | exact Drawn0.refl _ | apply Drawn0.step)⟩

theorem mul_one : ∀ n : Fin 513, bits_Mul.f 1 (n.val : Int) = some (0, (n.val : Int)) := by decide +kernel
theorem mul_calls (n : Nat) (h : n ≤ 512) (w : World) : Calls Try.prog 54 #[.int .u64 1, .int .u64 (n : Int)] w fun e w' => e = .returned (.tuple #[.int .u64 0, .int .u64 (n : Int)]) ∧ Below w.heap.size w w' :=
  (bits_Mul.calls 1 (n : Int) 0 (n : Int) w (mul_one ⟨n, by omega⟩)).mono fun e w' ⟨h1, h2⟩ => ⟨h1, h2.below⟩
end Go.Proofs.Ytbdfdfahpdilpaa.Dk

/-! Layer 3: full sectors, Repeat, New. -/
namespace Go.Proofs.Ytbdfdfahpdilpaa.Dk
open Go Go.RowKit Go.ChangeMaps Go.Proofs.Ytbdfdfahpdilpaa.Arr Go.Proofs.Ytbdfdfahpdilpaa.Mp Go.Proofs.Ytbdfdfahpdilpaa.Ow Go.Proofs.YtbdfdfahpdilpaaW.PrintWords Go.Proofs.YtbdfdfahpdilpaaW.PrintLast Go.Proofs.YtbdfdfahpdilpaaW.PrintMore
set_option linter.unusedVariables false
set_option linter.unusedSimpArgs false
abbrev TB : TypeId := 5
def fullS (c : UInt8) : ByteArray := ⟨(List.replicate 128 c).toArray⟩
def zeroS : ByteArray := noughts 128
theorem row_full (c : UInt8) : row (fullS c) = (List.replicate 128 (Value.int .u8 (c.toNat : Int))).toArray := by
  simp [row, fullS, Lib.byteCells]
theorem full_size (c : UInt8) : (fullS c).size = 128 := by simp [fullS, ByteArray.size]
theorem infoB : (Try.prog.info? TB).map (fun i => (i.zero, i.size, i.bytes)) = some (some (.int .u8 0), 1, 1) := by kernel_rfl
theorem infoS : (Try.prog.info? TS).map (fun i => (i.zero, i.size, i.bytes)) = some (some (.string ⟨#[]⟩), 1, 16) := by kernel_rfl
theorem make_bytes (W : World) (n : Nat) (hn : n ≤ 65536) : (Instr.makeSlice 23 (.int .i64 (n : Int)) (.int .i64 (n : Int))).run Try.prog W = .ok (.slice (some ⟨W.heap.size, 0, none⟩) n n) (W.alloc (.cells (row (noughts n)) TB)) := by
  obtain ⟨i0, hi, h2⟩ := Option.map_eq_some_iff.1 infoB
  have hz : i0.zero = some (.int .u8 0) := congrArg Prod.fst h2
  have hs : i0.size = 1 := congrArg (fun p => p.2.1) h2
  have hb : i0.bytes = 1 := congrArg (fun p => p.2.2) h2
  have h := run_make (P := Try.prog) W 23 TB i0 _ (by kernel_rfl) hi hz .i64 .i64 (n : Int) (n : Int) (by omega) (by omega) (by rw [hb]; omega) (by omega)
  rw [hs, Int.toNat_natCast, Nat.mul_one] at h
  rw [h, row_noughts, ← List.toArray_replicate, ← made_one]
  rfl
def repS (n : Nat) (s : ByteArray) : List Value := List.replicate n (Value.string s)
theorem z128 (w : World) : (zeroValue 102).run Try.prog w = .ok (.agg (row (noughts 128))) w := by rw [row_noughts]; kernel_rfl
attribute [local go_sem] z128
theorem make_strings (W : World) (n : Nat) (hn : n ≤ 65536) : (Instr.makeSlice 37 (.int .i64 (n : Int)) (.int .i64 (n : Int))).run Try.prog W = .ok (.slice (some ⟨W.heap.size, 0, none⟩) n n) (W.alloc (.cells (repS n ⟨#[]⟩).toArray TS)) := by
  obtain ⟨i0, hi, h2⟩ := Option.map_eq_some_iff.1 infoS
  have hz : i0.zero = some (.string ⟨#[]⟩) := congrArg Prod.fst h2
  have hs : i0.size = 1 := congrArg (fun p => p.2.1) h2
  have hb : i0.bytes = 16 := congrArg (fun p => p.2.2) h2
  have h := run_make (P := Try.prog) W 37 TS i0 _ (by kernel_rfl) hi hz .i64 .i64 (n : Int) (n : Int) (by omega) (by omega) (by rw [hb]; omega) (by omega)
  rw [hs, Int.toNat_natCast, Nat.mul_one] at h
  rw [h, repS, ← made_one]
  rfl
theorem zero_calls (w : World) : Calls Try.prog 39 #[] w fun e w' => e = .returned (.string (noughts 128)) ∧ Below w.heap.size w w' := by
  have hb := heap_alloc_new w (.cells (row (noughts 128)) 102)
  have HB := Aside0.mk (((Below.refl w.heap.size w)).alloc (Nat.le_refl _) (.cells (row (noughts 128)) 102))
  have hconv := conv_whole (P := Try.prog) hb 23 TB TS (by kernel_rfl) (by kernel_rfl) (by kernel_rfl) 128 128 rfl
  clear hb
  go_enter Try.func39, Try.ntmps39
  go_wp2
  go_ret
  exact ⟨rfl, HB.out⟩
theorem rzero_calls (w : World) : Calls Try.prog 46 #[] w fun e w' => e = .returned (.string (noughts 128)) ∧ Below w.heap.size w w' := by
  have hb := heap_alloc_new w (.cells (row (noughts 128)) TB)
  have HB := Aside0.mk (((Below.refl w.heap.size w)).alloc (Nat.le_refl _) (.cells (row (noughts 128)) TB))
  have hconv := conv_whole (P := Try.prog) hb 23 TB TS (by kernel_rfl) (by kernel_rfl) (by kernel_rfl) 128 128 rfl
  clear hb
  go_enter Try.func46, Try.ntmps46
  go_wp2_with ((with_reducible refine gate_dst (N := 1) rfl ?_); refine ev_make _ _ 23 rfl rfl _ _ rfl rfl (make_bytes _ 128 (by decide)) ?_)
  go_ret
  exact ⟨rfl, HB.out⟩
def fillA (c : UInt8) (k : Nat) : Array Value := (List.replicate k (Value.int .u8 (c.toNat : Int)) ++ List.replicate (128 - k) (Value.int .u8 0)).toArray
theorem fill_set (c : UInt8) (k : Nat) (h : k < 128) : (fillA c k).setIfInBounds k (Value.int .u8 (c.toNat : Int)) = fillA c (k + 1) := by
  unfold fillA
  rw [List.setIfInBounds_toArray, List.set_append_right _ _ (by simp), List.length_replicate, Nat.sub_self, show 128 - k = (128 - (k + 1)) + 1 by omega, List.replicate_succ, List.set_cons_zero, List.replicate_succ' (n := k)]
  simp
theorem fill_size (c : UInt8) (k : Nat) (h : k ≤ 128) : (fillA c k).size = 128 := by simp [fillA]; omega
theorem fill_cell (c : UInt8) (k : Nat) (h : k < 128) : (fillA c k)[k]? = some (Value.int .u8 0) := by
  simp only [fillA, List.getElem?_toArray, List.getElem?_append, List.length_replicate, Nat.lt_irrefl, if_false, Nat.sub_self, List.getElem?_replicate]
  rw [if_pos (by omega)]
theorem fill_zero (c : UInt8) : fillA c 0 = row (noughts 128) := by rw [row_noughts]; unfold fillA; rw [List.replicate_zero, List.nil_append, List.toArray_replicate]
theorem fill_full (c : UInt8) : fillA c 128 = row (fullS c) := by rw [row_full]; simp [fillA]
theorem full_calls (c : UInt8) (w : World) : Calls Try.prog 17 #[.int .u8 (c.toNat : Int)] w fun e w' => e = .returned (.string (fullS c)) ∧ Below w.heap.size w w' := by
  go_enter Try.func17, Try.ntmps17
  go_upto_region 3 with ((with_reducible refine gate_dst (N := 5) rfl ?_); refine ev_make _ _ 23 rfl rfl _ _ rfl rfl (make_bytes _ 128 (by decide)) ?_)
  have hb : (w.alloc (.cells (row (noughts 128)) TB)).heap[w.heap.size]? = some (.cells (fillA c 0) TB (0, 0)) := by rw [fill_zero]; exact heap_alloc_new w _
  have HB := Aside0.mk (((Below.refl w.heap.size w)).alloc (Nat.le_refl _) (.cells (row (noughts 128)) TB))
  have BK := Aside0.mk hb; clear hb
  generalize hW : (w.alloc (.cells (row (noughts 128)) TB)) = W at *
  clear hW
  go_loopw [8] (fun i wr => ∃ k : Nat, i = .int .i64 k ∧ Aside0 (k ≤ 128) ∧ Aside0 (wr.heap[w.heap.size]? = some (.cells (fillA c k) TB (0, 0))) ∧ Aside0 (Below w.heap.size w wr)) (fun i _ => 128 - (intOf i).toNat)
  case atStart => exact ⟨0, rfl, ⟨by omega⟩, BK, HB⟩
  case round =>
    clear BK HB
    obtain ⟨k, rfl, K, BK, HB⟩ := hrel
    by_cases hlt : (k : Int) < 128
    · have hk : k < 128 := by omega
      have hge : (0 : Int) ≤ (k : Int) := by omega
      have hwk : wrap64 ((k : Int) + 1) = ((k + 1 : Nat) : Int) := by unfold wrap64; omega
      have c1 : wr.cell? ⟨w.heap.size, k, none⟩ = some (.int .u8 0) := (blk_cell BK.out k).trans (fill_cell c k hk)
      have f1 : wr.frozen? ⟨w.heap.size, k, none⟩ = false := blk_frozen BK.out k
      have e1 := blk_put BK.out k (.int .u8 (c.toNat : Int)) (fill_set c k hk)
      have hB1 := HB.out.setCell (p := ⟨w.heap.size, k, none⟩) (Nat.le_refl _) (.int .u8 (c.toNat : Int))
      have K1 := Aside0.mk e1; have K2 := Aside0.mk hB1
      clear e1 hB1
      go_wp2
      go_roundw
      case measure => simp only [intOf]; omega
      case rel => exact ⟨k + 1, rfl, ⟨by omega⟩, K1, K2⟩
    · have hk : k = 128 := by have := K.out; omega
      subst hk
      have hb := BK.out
      rw [fill_full] at hb
      have hconv := conv_whole (P := Try.prog) hb 23 TB TS (by kernel_rfl) (by kernel_rfl) (by kernel_rfl) 128 128 (full_size c)
      clear hb
      go_wp2
      go_ret
      exact ⟨rfl, HB.out⟩
def repA (n k : Nat) (z : ByteArray) : Array Value := (repS k z ++ repS (n - k) ⟨#[]⟩).toArray
theorem rep_len (n : Nat) (z : ByteArray) : (repS n z).length = n := by simp [repS]
theorem repA_size (n k : Nat) (z : ByteArray) (h : k ≤ n) : (repA n k z).size = n := by simp [repA, rep_len]; omega
theorem repA_zero (n : Nat) (z : ByteArray) : repA n 0 z = (repS n ⟨#[]⟩).toArray := by simp [repA, repS]
theorem repA_all (n : Nat) (z : ByteArray) : repA n n z = (repS n z).toArray := by simp [repA, repS]
theorem repA_get (n k : Nat) (z : ByteArray) (j : Nat) (h : j < k) : (repA n k z)[j]? = some (.string z) := by
  simp only [repA, List.getElem?_toArray, List.getElem?_append, rep_len, repS, List.length_replicate, if_pos h, List.getElem?_replicate]
theorem repA_copy (n k c : Nat) (z : ByteArray) (h : k + c ≤ n) : ((repA n k z).toList.take k ++ repS c z ++ (repA n k z).toList.drop (k + c)).toArray = repA n (k + c) z := by
  unfold repA
  congr 1
  simp only [repS]
  rw [List.take_append_of_le_length (by simp), List.take_of_length_le (by simp), List.drop_append, List.drop_of_length_le (by simp), List.length_replicate, List.nil_append, List.replicate_append_replicate]
  rw [show k + c - k = c by omega, List.drop_replicate, show n - k - c = n - (k + c) by omega]
theorem rep_copy (W : World) (n k g b o' : Nat) (cap sl sc : Nat) (z : ByteArray) (hg : W.heap[g]? = some (.cells (repA n k z) TS (0, 0))) (c : Nat) (hc : k + c ≤ n) (hm : c = Nat.min sl (n - k)) (hs : ∀ j, j < c → W.cell? ⟨b, o' + j, none⟩ = some (.string z)) (ty : TypeId) :
    (Builtin.copy_ #[37, 37] ty #[.slice (some ⟨g, k, none⟩) (n - k) cap, .slice (some ⟨b, o', none⟩) sl sc]).run Try.prog W = .ok (goInt c) (W.setRow g (repA n (k + c) z)) := by
  have h := run_copy_row (P := Try.prog) W 37 37 ty TS g k (n - k) cap ⟨b, o', none⟩ sl sc _ TS (repS c z) (by kernel_rfl) (by kernel_rfl) hg (by rw [rep_len]; exact hm) (fun j v hj => by
    have hj2 : j < c := by
      rcases Nat.lt_or_ge j c with h | h
      · exact h
      · rw [List.getElem?_eq_none (by rw [rep_len]; exact h)] at hj; cases hj
    have : v = .string z := by simp [repS, List.getElem?_replicate, hj2] at hj; exact hj.symm
    rw [this, Addr.add_lit]; exact hs j hj2) (by rw [rep_len, repA_size n k z (by omega)]; exact hc) (fun v hv => by rw [List.eq_of_mem_replicate hv]; rfl)
  rw [rep_len, repA_copy n k c z hc] at h
  exact h
set_option maxHeartbeats 4000000 in
set_option maxRecDepth 20000 in
theorem repeat_calls (z : ByteArray) (n : Nat) (h1 : 1 ≤ n) (h2 : n ≤ 512) (b : Nat) (w : World) (hb : w.heap[b]? = some (.cells #[.string z] TS (0, 0))) : Calls Try.prog 38 #[.slice (some ⟨b, 0, none⟩) 1 1, .int .i64 (n : Int)] w fun e w' => ∃ g, w.heap.size ≤ g ∧ e = .returned (.slice (some ⟨g, 0, none⟩) n n) ∧ w'.heap[g]? = some (.cells (repS n z).toArray TS (0, 0)) ∧ Below w.heap.size w w' := by
  have HB := Aside0.mk (Below.refl w.heap.size w)
  have BB := Aside0.mk hb; have H1 := Aside0.mk h1; have H2 := Aside0.mk h2; clear hb h1
  have hu : IntKind.u64.wrap (n : Int) = (n : Int) := by rw [IntKind.wrap_u64]; omega
  have t2 : decide ((9223372036854775807 : Int) < (n : Int)) = false := decide_eq_false (by omega)
  have hw : wrap64 (n : Int) = (n : Int) := by unfold wrap64; omega
  clear h2
  go_enter Try.func38, Try.ntmps38
  go_upto_region 6 with (go_at_call 54; with_reducible refine (mul_calls n H2.out _).mono ?_; rintro e w1 ⟨rfl, hb1⟩; have n_ := Aside0.mk (Arr.below_trans HB.out hb1); clear HB; have HB := n_; clear n_ hb1)
  have hb1 : w1.heap[b]? = some (.cells #[.string z] TS (0, 0)) := (HB.out.block b (blk_lt BB.out)).trans BB.out
  clear BB
  have hm0 := make_strings w1 n (by have := H2.out; omega)
  conv at hm0 => lhs; rw [← hw]
  have HM := Aside0.mk hm0; clear hm0
  go_upto_region 7 with ((with_reducible refine gate_dst (N := 30) rfl ?_); refine ev_make (.tmp 29) (.tmp 29) 37 rfl rfl _ _ rfl rfl HM.out ?_)
  have hg0 : (w1.alloc (.cells (repS n ⟨#[]⟩).toArray TS)).heap[w1.heap.size]? = some (.cells (repA n 0 z) TS (0, 0)) := by rw [repA_zero]; exact heap_alloc_new w1 _
  have hb2 := blk_alloc hb1 (.cells (repS n ⟨#[]⟩).toArray TS)
  have hB2 := Arr.below_trans HB.out ((Below.refl _ _).alloc (Nat.le_refl _) (.cells (repS n ⟨#[]⟩).toArray TS))
  have hge_ := Aside0.mk HB.out.size
  clear HB HM hb1
  generalize w1.alloc (.cells (repS n ⟨#[]⟩).toArray TS) = W at *
  generalize w1.heap.size = g at *
  have HG := Aside0.mk hg0; have HBB := Aside0.mk hb2; have HB := Aside0.mk hB2
  clear hg0 hb2 hB2
  have hcp := rep_copy W n 0 g b 0 n 1 1 z HG.out 1 (by have := H1.out; omega) (by rw [Nat.sub_zero]; exact (Nat.min_eq_left H1.out).symm) (fun j hj => by have e : j = 0 := (by omega); subst e; exact blk_cell HBB.out 0) 3
  rw [Nat.sub_zero, Nat.zero_add] at hcp
  go_upto_region 8 with (fail)
  have hs := set_row HG.out (repA n 1 z)
  have hB3 := below_setRow HB.out hge_.out (repA n 1 z)
  clear HG HB hcp HBB
  generalize W.setRow g (repA n 1 z) = W2 at *
  have HG := Aside0.mk hs; have HB := Aside0.mk hB3
  clear hs hB3
  go_loopw [8] (fun i wr => ∃ k : Nat, i = .int .i64 k ∧ Aside0 (1 ≤ k ∧ k ≤ n) ∧ Aside0 (wr.heap[g]? = some (.cells (repA n k z) TS (0, 0))) ∧ Aside0 (Below w.heap.size w wr)) (fun i _ => n - (intOf i).toNat)
  case atStart => exact ⟨1, rfl, ⟨⟨by omega, H1.out⟩⟩, HG, HB⟩
  case round =>
    clear HG HB
    obtain ⟨k, rfl, K, HG, HB⟩ := hrel
    by_cases hlt : (k : Int) < (n : Int)
    · have hge : (0 : Int) ≤ (k : Int) := by omega
      have hkn : (k : Int) ≤ (n : Int) := by omega
      obtain ⟨c, hc⟩ : ∃ c, c = Nat.min k (n - k) := ⟨_, rfl⟩
      have hc0 : 1 ≤ c ∧ k + c ≤ n := by have := K.out; rw [hc]; simp only [Nat.min_def]; split <;> omega
      have hcp := rep_copy wr.drew n k g g 0 (n - k) k n z HG.out c hc0.2 hc (fun j hj => by
        rw [Nat.zero_add]
        exact (blk_cell HG.out j).trans (repA_get n k z j (by have := K.out; rw [hc] at hj; have := Nat.min_le_left k (n - k); exact Nat.lt_of_lt_of_le hj this))) 3
      have hwk : wrap64 ((k : Int) + (c : Int)) = ((k + c : Nat) : Int) := by have := H2.out; have := hc0.2; unfold wrap64; omega
      have hs := set_row (w := wr.drew) HG.out (repA n (k + c) z)
      have hB3 := below_setRow HB.out.drew hge_.out (repA n (k + c) z)
      have HG1 := Aside0.mk hs; have HB1 := Aside0.mk hB3; have HC0 := Aside0.mk hc0; have HC := Aside0.mk hc
      clear hs hB3 hc0 hc HG HB
      go_wp2
      go_region
      simp only [Exit.inBlock, Exit.then, hwk]
      go_roundw
      case measure =>
        show n - (intOf (.int .i64 ((k + c : Nat) : Int))).toNat < n - (intOf (.int .i64 (k : Int))).toNat
        simp only [intOf]
        have := HC0.out
        omega
      case rel => exact ⟨_, _, _, _, _, _, _, _, _, _, _, _, _, _, ⟨k + c, rfl, ⟨by have := HC0.out; have := K.out; omega⟩, HG1, HB1⟩, rfl⟩
    · have hk : k = n := by have := K.out; omega
      subst hk
      go_wp2
      go_ret
      exact ⟨g, hge_.out, rfl, by have := HG.out; rw [repA_all] at this; exact this, HB.out⟩
def newD (n : Nat) : DS := ⟨List.replicate n (noughts 128), [], false, -1⟩
theorem new_none (n : Int) (h : ¬ (1 ≤ n ∧ n ≤ 512)) (w : World) : Calls Try.prog 13 #[.int .i64 n] w fun e w' => e = .returned (.tuple #[.pointer none, .int .i64 1]) ∧ Below w.heap.size w w' := by
  rcases Int.lt_or_le n 1 with h1 | h1
  · have t1 : decide (n < 1) = true := decide_eq_true h1
    clear h1 h
    go_enter Try.func13, Try.ntmps13
    go_wp2
    go_ret2
    exact ⟨rfl, Below.refl _ _⟩
  · have t1 : decide (n < 1) = false := decide_eq_false (by omega)
    have t2 : decide (512 < n) = true := decide_eq_true (by omega)
    clear h1 h
    go_enter Try.func13, Try.ntmps13
    go_wp2
    go_ret2
    exact ⟨rfl, Below.refl _ _⟩
set_option maxHeartbeats 4000000 in
theorem new_calls (n : Nat) (h1 : 1 ≤ n) (h2 : n ≤ 512) (w : World) : Calls Try.prog 13 #[.int .i64 (n : Int)] w fun e w' => ∃ g, w.heap.size ≤ g ∧ e = .returned (.tuple #[.pointer (some ⟨g, 0, none⟩), .int .i64 0]) ∧ DK w' (fun k => w.heap.size ≤ k) g (newD n) ∧ Below w.heap.size w w' := by
  have HB := Aside0.mk (Below.refl w.heap.size w)
  have t1 : decide ((n : Int) < 1) = false := decide_eq_false (by omega)
  have t2 : decide (512 < (n : Int)) = false := decide_eq_false (by omega)
  have H1 := Aside0.mk h1; have H2 := Aside0.mk h2; clear h1 h2
  have hmm : ∀ W : World, (Instr.makeMap 78 none).run Try.prog W = .ok (.map (some W.heap.size)) (W.alloc (.map #[] 0)) := fun W => rfl
  go_enter Try.func13, Try.ntmps13
  go_wp2_with (first | (go_at_call 39; with_reducible refine (zero_calls _).mono ?_; rintro e w1 ⟨rfl, hb1⟩; have n_ := Aside0.mk (Arr.below_trans HB.out hb1); clear HB; have HB := n_; clear n_ hb1) | (go_at_call 38; with_reducible refine (repeat_calls (noughts 128) n H1.out H2.out _ _ (heap_alloc_new _ _)).mono ?_; rintro e w2 ⟨gs, hge, rfl, hgs, hb2⟩; have n_ := Aside0.mk (Arr.below_trans (HB.out.alloc HB.out.size (.cells #[.string (noughts 128)] TS)) hb2); have l_ := Aside0.mk (show w.heap.size ≤ gs from Nat.le_trans HB.out.size (Nat.le_trans (by simp) hge)); have GS := Aside0.mk hgs; clear HB hb2 hge hgs; have HB := n_; clear n_))
  go_ret2
  have hb := HB.out
  have q0 := heap_alloc_new (w2.alloc (.map #[] 0)) (.cells #[.slice (some ⟨gs, 0, none⟩) n n, .slice none 0 0, .map (some w2.heap.size), .bool false, .int .i64 (-1)] TD)
  have hlt := blk_lt GS.out
  have q1 : ((w2.alloc (.map #[] 0)).alloc (.cells #[.slice (some ⟨gs, 0, none⟩) n n, .slice none 0 0, .map (some w2.heap.size), .bool false, .int .i64 (-1)] TD)).heap[gs]? = some (.cells (repS n (noughts 128)).toArray TS (0, 0)) := blk_alloc (blk_alloc GS.out _) _
  have q2 : MP ((w2.alloc (.map #[] 0)).alloc (.cells #[.slice (some ⟨gs, 0, none⟩) n n, .slice none 0 0, .map (some w2.heap.size), .bool false, .int .i64 (-1)] TD)) w2.heap.size (fun _ => none) := (MP.made w2).same (by rw [heap_alloc_old]; simp)
  have hsz := hb.size
  refine ⟨w2.heap.size + 1, by omega, by simp, ⟨.slice (some ⟨gs, 0, none⟩) n n, .slice none 0 0, w2.heap.size, ⟨?_, ?_, Ow.nil _ _ _ _, q2, ?_, ?_⟩⟩, (hb.alloc hsz _).alloc (by simp; omega) _⟩
  · rw [World.size_alloc] at q0
    exact q0
  · have e1 : (newD n).safe.length = n := by simp [newD]
    rw [e1]
    refine ⟨⟨by simp [newD], .inr ⟨gs, n, _, ?_, Nat.zero_le _, q1, Nat.le_refl _, by have := H2.out; simp only [maxLen]; omega, by simp [rep_len], ?_⟩⟩, fun k hk => ?_⟩
    · rfl
    · simp [newD, repS]
    · injection hk with hk
      subst hk
      exact l_.out
  · show w.heap.size ≤ w2.heap.size + 1
    omega
  · exact hsz
end Go.Proofs.Ytbdfdfahpdilpaa.Dk

/-! A loop over a map of strings by ints, whose rounds write elsewhere. -/
namespace Go.Proofs.Ytbdfdfahpdilpaa.Dk
open Go Go.RowKit Go.ChangeMaps Go.Proofs.Ytbdfdfahpdilpaa.Arr Go.Proofs.Ytbdfdfahpdilpaa.Mp Go.Proofs.Ytbdfdfahpdilpaa.Ow
set_option linter.unusedVariables false
set_option linter.unusedSimpArgs false
section
variable {P : Program}
theorem run_next_at (W : World) (ty : TypeId) (r m since c0 : Nat) (seen : Array Nat) (es : Array MapEntry) (clock : Nat) (hr : W.heap[r]? = some (.mapIter (some m) since seen c0)) (hb : W.heap[m]? = some (.map es clock)) (hold : ∀ x ∈ es.toList, x.born < since) (hsc : since ≤ c0) :
    ((leftOf es seen).size = 0 ∧ (Instr.next (.pointer (some ⟨r, 0, none⟩)) false ty).run P W = .ok (.tuple #[.bool false]) W) ∨
    ∃ e ∈ (leftOf es seen).toList, ∃ W1 : World, (W1 = W ∨ W1 = W.drew) ∧ (Instr.next (.pointer (some ⟨r, 0, none⟩)) false ty).run P W = .ok (.tuple #[.bool true, e.key, e.val]) (setBlock W1 r (.mapIter (some m) since (seen.push e.born) clock)) := by
  simp only [Instr.next, getObj, Sem.run_bind, Sem.run, hr, hb, Result.andThen, next_test_false seen es since c0 hold hsc, Bool.false_eq_true, if_false]
  unfold leftOf
  have hmem : ∀ x ∈ (Array.filter (fun e => !seen.contains e.born) es).toList, x.born < since := fun x hx => hold x (by simp at hx ⊢; exact hx.1)
  generalize Array.filter (fun e => !seen.contains e.born) es = L at hmem ⊢
  have e1 : L.filter (fun x => decide (x.born < since)) = L := Array.filter_eq_self.2 (fun x hx => by simpa using hmem x (by simpa using hx))
  have e2 : L.filter (fun x => decide (x.born ≥ since)) = #[] := by
    rw [Array.filter_eq_empty_iff]
    intro x hx
    have := hmem x (by simpa using hx)
    simp
    omega
  simp only [e1, e2, Array.append_empty]
  by_cases h0 : L.size = 0
  · left
    have : L = #[] := Array.eq_empty_of_size_eq_zero h0
    subst this
    refine ⟨rfl, ?_⟩
    simp [choose, Sem.run, Question.forced]
  · right
    have hne : L.isEmpty = false := by simp [Array.isEmpty, h0]
    simp only [hne, Bool.false_eq_true, if_false, Array.empty_append, Array.size_map]
    have hch : ∃ (j : Nat) (w1 : World), j < L.size ∧ (w1 = W ∨ w1 = W.drew) ∧ (choose (Question.mapNext L.size)).run P W = .ok j w1 := by
      by_cases hf : L.size ≤ 1
      · exact ⟨0, W, by omega, .inl rfl, by simp [choose, Sem.run, Question.forced, hf]⟩
      · exact ⟨_, W.drew, Nat.mod_lt _ (by omega), .inr rfl, by
          simp only [choose, Sem.run, Question.forced, decide_eq_true_eq, hf, if_false, Question.cut]
          rfl⟩
    obtain ⟨j, w1, hj, hal, hrun⟩ := hch
    refine ⟨L[j], by simp, w1, hal, ?_⟩
    have hr1 : w1.heap[r]? = some (.mapIter (some m) since seen c0) := by rcases hal with rfl | rfl <;> exact hr
    have hset : ∀ (o' : Obj), (setObj r o').run P w1 = .ok () (setBlock w1 r o') := fun o' => by
      simp only [setObj, Sem.run]
      rw [hr1]
      rfl
    simp only [hrun, Array.getElem?_map, Array.getElem?_eq_getElem hj, Option.map_some, Sem.run_bind, hset, Result.andThen]
    rfl
theorem run_entry_at (W : World) (r m since : Nat) (seen : Array Nat) (es : Array MapEntry) (clock : Nat) (e : MapEntry) (hr : W.heap[r]? = some (.mapIter (some m) since (seen.push e.born) clock)) (hb : W.heap[m]? = some (.map es clock)) (he : e ∈ es.toList) (hn : (es.toList.map (·.born)).Nodup) :
    (Instr.entry (.pointer (some ⟨r, 0, none⟩))).run P W = .ok (.tuple #[e.key, e.val]) W := by
  have hf : es.find? (·.born == e.born) = some e := by rw [← Array.find?_toList]; exact find_born e es.toList hn he
  simp only [Instr.entry, getObj, Sem.run_bind, Sem.run, hr, hb, Result.andThen, Array.back?_push, bne_self_eq_false, Bool.false_eq_true, if_false, hf]
  rfl
end
theorem iter_ne {w : World} {r g : Nat} {a : Option Nat} {b c : Nat} {s : Array Nat} {cs : Array Value} {t : TypeId} {fr : Nat × Nat} (hr : w.heap[r]? = some (.mapIter a b s c)) (hg : w.heap[g]? = some (.cells cs t fr)) : g ≠ r := by
  intro e
  subst e
  rw [hg] at hr
  cases hr
theorem iter_own {w : World} {S : Nat → Prop} {e : TypeId} {sz : Nat} {v : Value} {n : Nat} {xs : List Value} (h : Ow w S e sz v n xs) {r : Nat} {a : Option Nat} {b c : Nat} {s : Array Nat} (hr : w.heap[r]? = some (.mapIter a b s c)) : ∀ k, v.ownBlock = some k → k ≠ r := by
  intro k hk
  rcases h.own.2 with ⟨h1, _⟩ | ⟨g', cap, cur, hv, _, h2, _⟩
  · rw [h1] at hk; cases hk
  · rw [hv] at hk
    injection hk with hk
    subst hk
    exact iter_ne hr h2
theorem DV.iter {w : World} {S : Nat → Prop} {g : Nat} {d : DS} {f : Int → Option ByteArray} {sv rv : Value} {m : Nat} (h : DV w S g d f sv rv m) {r : Nat} {a : Option Nat} {b c : Nat} {s : Array Nat} (hr : w.heap[r]? = some (.mapIter a b s c)) (o : Obj) : DV (setBlock w r o) S g d f sv rv m :=
  ⟨(setBlock_other w r o (iter_ne hr h.blk)).trans h.blk, h.safe.same fun k hk => setBlock_other w r o (iter_own h.safe hr k hk), h.row.same fun k hk => setBlock_other w r o (iter_own h.row hr k hk), h.map.same (setBlock_other w r o (fun e => by
    obtain ⟨L, c', h1, _⟩ := h.map
    rw [e, hr] at h1
    cases h1)), h.sg, h.sm⟩
theorem iterSeen_of {w : World} {r : Nat} {a : Option Nat} {b c : Nat} {s : Array Nat} (hr : w.heap[r]? = some (.mapIter a b s c)) : w.iterSeen r = s := by
  unfold World.iterSeen
  rw [hr]
/-- What was handed out so far, by key. -/
def outM (L : List En) (seen : Array Nat) (i : Int) : Option ByteArray := (L.find? fun p => decide (i = p.1) && seen.contains p.2.2).map (·.2.1)
theorem out_nil (L : List En) : outM L #[] = fun _ => none := by
  funext i
  unfold outM
  rw [List.find?_eq_none.2]
  · rfl
  · intro p _
    simp
theorem out_all (L : List En) (seen : Array Nat) (h : ∀ p ∈ L, seen.contains p.2.2 = true) (i : Int) : outM L seen i = getM L i := by
  induction L with
  | nil => rfl
  | cons p r ih =>
    have h1 := h p (by simp)
    have ih := ih (fun q hq => h q (by simp [hq]))
    unfold outM at ih ⊢
    unfold getM
    rw [List.find?_cons]
    by_cases e : i = p.1
    · rw [if_pos e, decide_eq_true e, h1]; rfl
    · rw [if_neg e, decide_eq_false e]; exact ih
theorem out_push (L : List En) (c : Nat) (hi : MI L c) (seen : Array Nat) (k : Int) (v : ByteArray) (b : Nat) (hm : (k, v, b) ∈ L) (i : Int) : outM L (seen.push b) i = if i = k then some v else outM L seen i := by
  have hk := hi.keys
  have hb := hi.borns
  clear hi
  induction L with
  | nil => cases hm
  | cons p r ih =>
    have hk' := List.nodup_cons.1 hk
    have hb' := List.nodup_cons.1 hb
    unfold outM at ih ⊢
    rw [List.find?_cons, List.find?_cons, contains_push]
    rcases List.mem_cons.1 hm with rfl | hm
    · by_cases e : i = k
      · rw [if_pos e, decide_eq_true e]
        simp
      · rw [if_neg e, decide_eq_false e]
        simp only [Bool.false_and]
        congr 1
        have : ∀ (l : List En), b ∉ l.map (fun x => x.2.2) → l.find? (fun p => decide (i = p.1) && (seen.push b).contains p.2.2) = l.find? (fun p => decide (i = p.1) && seen.contains p.2.2) := by
          intro l
          induction l with
          | nil => intro _; rfl
          | cons q l ih2 =>
            intro h
            rw [List.find?_cons, List.find?_cons, contains_push]
            have hq : (q.2.2 == b) = false := by
              rw [beq_eq_false_iff_ne]
              intro e2
              exact h (by rw [List.map_cons, ← e2]; exact List.mem_cons_self)
            rw [hq, Bool.or_false, ih2 (fun h2 => h (List.mem_cons_of_mem _ h2))]
        exact this r hb'.1
    · have hne : (p.2.2 == b) = false := by
        rw [beq_eq_false_iff_ne]
        intro e2
        exact hb'.1 (List.mem_map.2 ⟨_, hm, e2.symm⟩)
      have hne2 : k ≠ p.1 := fun e2 => hk'.1 (List.mem_map.2 ⟨_, hm, e2⟩)
      rw [hne, Bool.or_false]
      by_cases e : i = p.1
      · rw [decide_eq_true e, Bool.true_and]
        have : i ≠ k := fun e3 => hne2 (e3 ▸ e)
        rw [if_neg this]
        cases hs : seen.contains p.2.2 with
        | true => rfl
        | false =>
          simp only
          have := ih hm hk'.2 hb'.2
          rw [if_neg ‹i ≠ k›] at this
          exact this
      · rw [decide_eq_false e, Bool.false_and]
        simp only
        exact ih hm hk'.2 hb'.2
theorem over_none (safe : List ByteArray) : overF (fun _ => none) safe = safe := by
  apply List.ext_getElem?
  intro i
  simp [overF]
theorem over_length (f : Int → Option ByteArray) (safe : List ByteArray) : (overF f safe).length = safe.length := by simp [overF]
theorem over_set (f f' : Int → Option ByteArray) (safe : List ByteArray) (k : Int) (v : ByteArray) (h0 : 0 ≤ k) (h : ∀ i, f' i = if i = k then some v else f i) : (overF f safe).set k.toNat v = overF f' safe := by
  apply List.ext_getElem?
  intro i
  rw [List.getElem?_set]
  simp only [overF, List.getElem?_mapIdx, List.length_mapIdx]
  by_cases e : k.toNat = i
  · subst e
    rw [if_pos rfl]
    have ek : ((k.toNat : Nat) : Int) = k := by omega
    by_cases hl : k.toNat < safe.length
    · rw [if_pos hl, List.getElem?_eq_getElem hl]
      simp [h, ek]
    · rw [if_neg hl, List.getElem?_eq_none (by omega)]
      rfl
  · rw [if_neg e]
    cases safe[i]? with
    | none => rfl
    | some s =>
      have : ¬ ((i : Int) = k) := by omega
      simp [h, this]
theorem over_congr (f f' : Int → Option ByteArray) (safe : List ByteArray) (h : ∀ i, f i = f' i) : overF f safe = overF f' safe := by rw [funext h]
theorem left_seen {L : List En} {seen : Array Nat} (h : (leftOf (ents L) seen).size = 0) : ∀ p ∈ L, seen.contains p.2.2 = true := by
  intro p hp
  cases hc : seen.contains p.2.2 with
  | true => rfl
  | false =>
    have hm : ent p ∈ leftOf (ents L) seen := by
      unfold leftOf
      rw [Array.mem_filter]
      refine ⟨by simp [ents]; exact ⟨_, _, _, hp, rfl⟩, ?_⟩
      show (!seen.contains p.2.2) = true
      rw [hc]
      rfl
    have : leftOf (ents L) seen = #[] := Array.eq_empty_of_size_eq_zero h
    rw [this] at hm
    simp at hm
theorem left_mem {L : List En} {seen : Array Nat} {e : MapEntry} (h : e ∈ (leftOf (ents L) seen).toList) : ∃ p ∈ L, e = ent p := by
  have h1 := (mem_left h).1
  simp [ents] at h1
  obtain ⟨a, b, c, hm, he⟩ := h1
  exact ⟨(a, b, c), hm, he.symm⟩
end Go.Proofs.Ytbdfdfahpdilpaa.Dk

/-! Layer 3: Sync. -/
namespace Go.Proofs.Ytbdfdfahpdilpaa.Dk
open Go Go.RowKit Go.ChangeMaps Go.Proofs.Ytbdfdfahpdilpaa.Arr Go.Proofs.Ytbdfdfahpdilpaa.Mp Go.Proofs.Ytbdfdfahpdilpaa.Ow Go.Proofs.YtbdfdfahpdilpaaW.PrintWords Go.Proofs.YtbdfdfahpdilpaaW.PrintLast Go.Proofs.YtbdfdfahpdilpaaW.PrintMore
set_option linter.unusedVariables false
set_option linter.unusedSimpArgs false
set_option maxHeartbeats 4000000 in
theorem sync_calls (d : DS) (g : Nat) (S : Nat → Prop) (w : World) (hS : Top S w) (h : DK w S g d) (ho : OkD d) : Calls Try.prog 18 #[.pointer (some ⟨g, 0, none⟩)] w fun e w' => e = .returned (.int .i64 (syncE d)) ∧ DK w' S g (syncD d) ∧ FS S w w' := by
  obtain ⟨sv, rv, m, hv⟩ := h
  have HV := Aside0.mk hv; have HO := Aside0.mk ho; have HS := Aside0.mk hS; clear hv ho hS
  obtain ⟨⟨c0, c1, c2, c3, c4⟩, fr_⟩ := HV.out.cells; have f0 := fr_ 0; have f1 := fr_ 1; have f2 := fr_ 2; have f3 := fr_ 3; have f4 := fr_ 4; clear fr_
  rcases (show bearsE d = 4 ∨ bearsE d = 0 by unfold bearsE; split <;> simp) with hE | hE
  · have e1 : syncE d = 4 := hE
    have e2 : syncD d = bearsD d := by simp [syncD, hE]
    rw [e1, e2]
    clear e1 e2
    go_enter Try.func18, Try.ntmps18
    go_wp2_with (go_at_call 41; with_reducible refine (bears_calls d g S _ HV.out.dk HO.out).mono ?_; rintro e w2 ⟨rfl, hk2, hf2⟩; clear HV c0 c1 c2 c3 c4 f0 f1 f2 f3 f4; have F := Aside0.mk hf2; have HK := Aside0.mk hk2; clear hf2 hk2)
    go_ret
    exact ⟨rfl, HK.out, F.out⟩
  · have e1 : syncE d = 0 := hE
    have e2 : syncD d = settleD { bearsD d with safe := overF (lastOf d.row) d.safe } := by simp [syncD, hE]
    rw [e1, e2]
    clear e1 e2
    go_enter Try.func18, Try.ntmps18
    go_upto_region 6 with (go_at_call 41; with_reducible refine (bears_calls d g S _ HV.out.dk HO.out).mono ?_; rintro e w2 ⟨rfl, hk2, hf2⟩; clear HV c0 c1 c2 c3 c4 f0 f1 f2 f3 f4; have F := Aside0.mk hf2; have HK := Aside0.mk hk2; clear hf2 hk2)
    obtain ⟨sv, rv, m, hv⟩ := HK.out
    clear HK
    have hrow := bears_row d
    have hsafe := bears_safe d
    rw [hrow] at hv
    have HSF := Aside0.mk hsafe
    clear hrow hsafe
    generalize hD : bearsD d = d2 at hv HSF
    have HD := Aside0.mk hD; clear hD
    obtain ⟨L, c, hmap, hmi, hget⟩ := hv.map
    have HV := Aside0.mk hv; clear hv
    have HMI := Aside0.mk hmi; have HG := Aside0.mk hget; clear hmi hget
    have hrng := run_range_map (P := Try.prog) w2 78 3 9 m (ents L) c (by kernel_rfl) hmap
    have HM := Aside0.mk hmap; clear hmap
    obtain ⟨⟨c0, c1, c2, c3, c4⟩, fr_⟩ := HV.out.cells; have f0 := fr_ 0; have f1 := fr_ 1; have f2 := fr_ 2; have f3 := fr_ 3; have f4 := fr_ 4; clear fr_
    go_upto_region 7 with (fail)
    have hr0 := heap_alloc_new w2 (.mapIter (some m) c #[] c)
    have hm0 := blk_alloc HM.out (.mapIter (some m) c #[] c)
    have hv0 := HV.out.below ((Below.refl w2.heap.size w2).alloc (Nat.le_refl _) (.mapIter (some m) c #[] c))
    have hf0 := F.out.alloc (.mapIter (some m) c #[] c)
    have hT := Aside0.mk (HS.out.next F.out.size w2.heap.size (Nat.le_refl _))
    clear hrng c0 c1 c2 c3 c4 f0 f1 f2 f3 f4 HV F HM
    generalize w2.alloc (.mapIter (some m) c #[] c) = W at *
    generalize w2.heap.size = r at *
    have HR0 := Aside0.mk hr0; have HM0 := Aside0.mk hm0; have HV0 := Aside0.mk hv0; have HF0 := Aside0.mk hf0
    clear hr0 hm0 hv0 hf0
    go_loopw [4, 5] (fun _ _ wr => ∃ seen : Array Nat, Aside0 (wr.heap[r]? = some (.mapIter (some m) c seen c)) ∧ Aside0 (wr.heap[m]? = some (.map (ents L) c)) ∧ Aside0 (DV wr S g { d2 with safe := overF (outM L seen) d.safe } (lastOf d.row) sv rv m) ∧ Aside0 (FS S w wr)) (fun _ _ wr => (leftOf (ents L) (wr.iterSeen r)).size)
    case atStart => exact ⟨#[], HR0, HM0, ⟨by rw [out_nil, over_none, ← HSF.out]; exact HV0.out⟩, HF0⟩
    case round =>
      clear HR0 HM0 HV0 HF0
      obtain ⟨seen, HR, HM, HV, F⟩ := hrel
      have hold : ∀ x ∈ (ents L).toList, x.born < c := by
        intro x hx
        simp [ents] at hx
        obtain ⟨a, b, q, hm, rfl⟩ := hx
        exact HMI.out.below _ hm
      rcases run_next_at (P := Try.prog) wr 0 r m c c seen (ents L) c HR.out HM.out hold (Nat.le_refl _) with ⟨h0, hrun⟩ | ⟨e, he, W1, hW1, hrun⟩
      · have hall := left_seen h0
        have hfun : outM L seen = lastOf d.row := by
          funext i
          rw [out_all L seen hall, HG.out]
        have HFUN := Aside0.mk hfun
        clear h0 hall hfun hold
        go_wp2_with (go_at_call 42; with_reducible refine (settle_calls _ g S _ sv rv m _ HV.out).mono ?_; rintro e w5 ⟨rfl, hk5, hf5⟩; have HK := Aside0.mk hk5; have F5 := Aside0.mk (F.out.trans hf5); clear hk5 hf5)
        go_ret
        refine ⟨rfl, ?_, F5.out⟩
        have q := HK.out
        rw [HFUN.out] at q
        rw [HD.out]
        exact q
      · obtain ⟨p, hp, rfl⟩ := left_mem he
        have HSN := Aside0.mk (iterSeen_of HR.out)
        have hsh := left_shrinks (ents L) seen (ent p) he
        obtain ⟨k, v, b⟩ := p
        have hkm : (k, v) ∈ d.row := last_mem (by rw [← HG.out, get_of_mem (c := 0) HMI.out.keys hp])
        have hrange := HO.out.2.2.2.2 _ hkm
        have hk0 : 0 ≤ k := hrange.1
        have hk1 : k < d.safe.length := hrange.2
        have hin : ent (k, v, b) ∈ (ents L).toList := (mem_left he).1
        have hW : W1.heap = wr.heap ∧ FS S w W1 ∧ DV W1 S g { safe := overF (outM L seen) d.safe, row := d2.row, gone := d2.gone, fuse := d2.fuse } (lastOf d.row) sv rv m := by
          rcases hW1 with rfl | rfl
          · exact ⟨rfl, F.out, HV.out⟩
          · exact ⟨rfl, F.out.drew, HV.out.drew⟩
        obtain ⟨hWh, hWF, hWV⟩ := hW
        have hr1 : W1.heap[r]? = some (.mapIter (some m) c seen c) := by rw [hWh]; exact HR.out
        have hm1 : W1.heap[m]? = some (.map (ents L) c) := by rw [hWh]; exact HM.out
        have hrl : r < W1.heap.size := by
          rcases Nat.lt_or_ge r W1.heap.size with h1 | h1
          · exact h1
          · simp [Array.getElem?_eq_none h1] at hr1
        have hmr : m ≠ r := by
          intro e
          rw [e, hr1] at hm1
          cases hm1
        change (Instr.next _ false 0).run Try.prog wr = .ok (.tuple #[.bool true, .int .i64 k, .string v]) (setBlock W1 r (.mapIter (some m) c (seen.push b) c)) at hrun
        have hv2 := hWV.iter hr1 (.mapIter (some m) c (seen.push b) c)
        have hr2 := setBlock_at W1 r (.mapIter (some m) c (seen.push b) c) hrl
        have hm2 := (setBlock_other W1 r (.mapIter (some m) c (seen.push b) c) hmr).trans hm1
        have hf2 := hWF.setBlock (.inl hT.out) (.mapIter (some m) c (seen.push b) c)
        obtain ⟨bs, cc, cur, hsv, _, hbs, _, _, _, htk⟩ := hv2.safe.open (by simp only [over_length]; omega)
        have hlen : (overF (outM L seen) d.safe).length = d.safe.length := over_length _ _
        simp only [hlen] at hsv
        subst hsv
        generalize hW2 : setBlock W1 r (.mapIter (some m) c (seen.push b) c) = W2 at *
        clear hW2 hWh hWF hWV hr1 hm1 hrl hW1 HR HM HV F
        have hent := run_entry_at (P := Try.prog) W2 r m c seen (ents L) c (ent (k, v, b)) hr2 hm2 hin (by have := HMI.out.borns; simp only [ents, List.map_map]; exact this)
        change (Instr.entry _).run Try.prog W2 = .ok (.tuple #[.int .i64 k, .string v]) W2 at hent
        have hv3 := hv2.set_safe k.toNat (by simp only [over_length]; omega) v
        have hr3 := (Below.heap_setCell W2 ⟨bs, k.toNat, none⟩ (.string v) r (iter_ne hr2 hbs).symm).trans hr2
        have hm3 := (Below.heap_setCell W2 ⟨bs, k.toNat, none⟩ (.string v) m (fun e => by rw [e] at hm2; rw [hm2] at hbs; cases hbs)).trans hm2
        have hf3 := hf2.setCell (p := ⟨bs, k.toNat, none⟩) (.inl (hv2.safe.mem bs rfl)) (.string v)
        have hsafe : (overF (outM L seen) d.safe).set k.toNat v = overF (outM L (seen.push b)) d.safe := over_set _ _ _ k v hk0 (fun i => out_push L c HMI.out seen k v b hp i)
        simp only [hsafe] at hv3
        have fz : W2.frozen? ⟨bs, k.toNat, none⟩ = false := blk_frozen hbs _
        have cz : ∃ u, W2.cell? ⟨bs, k.toNat, none⟩ = some u := by
          have hx : ((overF (outM L seen) d.safe).map Value.string)[k.toNat]? = some (.string ((overF (outM L seen) d.safe)[k.toNat]'(by rw [over_length]; omega))) := by rw [List.getElem?_map, List.getElem?_eq_getElem]; rfl
          exact ⟨_, cell_of hbs htk hx⟩
        obtain ⟨u, cz⟩ := cz
        have HV2 := Aside0.mk hv2; have HR3 := Aside0.mk hr3; have HM3 := Aside0.mk hm3; have HF3 := Aside0.mk hf3; have HV3 := Aside0.mk hv3; have HSH := Aside0.mk hsh
        clear hsh
        clear hold hrange hkm hin hv2 hr2 hm2 hf2 hbs hlen hv3 hr3 hm3 hf3 hsafe he hp htk
        obtain ⟨⟨c0, c1, c2, c3, c4⟩, fr_⟩ := HV2.out.cells; clear fr_
        go_wp2
        go_roundw
        case measure =>
          rw [iterSeen_of HR3.out, HSN.out]
          exact HSH.out
        case rel => exact ⟨seen.push b, HR3, HM3, HV3, HF3⟩
end Go.Proofs.Ytbdfdfahpdilpaa.Dk
