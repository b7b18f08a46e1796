import Derived.KernelRfl
import Derived.WalkKit
import Derived.Below
import Derived.Laws.Rows
import Derived.Lib.BufferWrite
import Derived.Lib.SlBytesRow
import Derived.Laws.BytesArg
import Derived.Deep.Draws
import Derived.Maps.Keyed
import Derived.Laws.IdiomRangeMap
import Derived.Laws.AppendOwn
import Derived.Test.YtcelfhoomhmioaaProg
import Derived.Deep.QuietTactic
import Derived.Deep.RegionLaw
import Derived.BigQuiet
import Derived.RegionTactic
import Derived.Outline
import Derived.Lib.Hide
import Derived.Deep.CutBlock
import Derived.Deep.DeepCutAuto
import Derived.Deep.AppendLies
import Derived.Maps.AppendAt
import Derived.OwnWalk
import Derived.Laws.MakeOwn
import Derived.Laws.OwnMore
import Derived.Deep.OwnRows
import Derived.Tactics
import Derived.Lib.ConvBytes
import Derived.Laws.Slices
import Derived.RowKit3
import Derived.Deep.LoopGhost
import Derived.WideLaws
import Derived.Deep.RegionHeld3
import Derived.Lib.AppendStr
import Derived.ArgAppend
import Derived.Laws.IdiomCopy
import Derived.OrdersHeld
import Derived.Laws.BitsLemmas
import Derived.RowKit
import Derived.BigRegion
import Derived.WalkLawsBesides
import Derived.Lib.Builder
import Derived.Lib.UnsafeStr
import Derived.Laws.Externs
import Derived.Defers
import Derived.Recover
import Derived.Laws.IdiomStrings
import Derived.IntWalk
import Derived.Laws.Cover3
import Derived.Test.YtcelfhoomhmioaaPEZ0
import Derived.Test.YtcelfhoomhmioaaPEZ1
import Derived.Test.YtcelfhoomhmioaaPEZ2
set_option maxRecDepth 8192
namespace Go.Proofs.Ytcelfhoomhmioaa.Rgn
open Go Go.RowKit Go.Proofs.YtcelfhoomhmioaaW.PrintWords Go.Proofs.YtcelfhoomhmioaaW.PrintLast
set_option linter.unusedVariables false
section
variable {P : Program} {md : Region.Mode} {ops : Array Oper} {Q : Exit → Act → World → Prop} {S : World → Prop} {ds : List Nat}
variable {oi : Oper} {fuel : Nat} {l l' : Array Bool} {a a' : Act} {w : World} {v : Value} {T : Bool × List (List Nat × List Nat)} {B : List Nat}
/-- A pure step. -/
theorem rgp (i N : Nat) (h : wpAnyLast P md ops Q S ds fuel l' a' w) (hi : ops[i]? = some oi := by rfl) (hN : oi.dst = some N := by rfl) (hl : l.setIfInBounds i true = l' := by simp only [List.setIfInBounds_toArray, List.set_cons_zero, List.set_cons_succ]; rfl)
    (hc : anyB md ops l l' i = true := by kernel_rfl) (hQ : ∀ c a w, Q (.panic c) (a.put oi.dst v) w → Q (.panic c) a w := by exact fun _ _ _ h => h) (hw : Region.wanted oi (yielded ops a.tmps) = true := by kernel_rfl)
    (hy : ∀ w', (execOp a.eval oi).run P w' = .ok (.value v) w' := by intro w'; go_simp; with_reducible rfl) (ha : a.put (some N) v = a' := by simp only [Act.put, List.setIfInBounds_toArray, List.set_cons_zero, List.set_cons_succ, i64_w, i32_w]; rfl) :
    wpAnyLast P md ops Q S ds (fuel + 1) l a w := pure_ l' hi hN hc hQ (Or.inl ⟨hw, hy⟩) ha h
/-- A load, out of what is held. -/
theorem rgt (i N : Nat) (hS : S w) (h : wpAnyLast P md ops Q S ds fuel l' a' w) (hi : ops[i]? = some oi := by rfl) (hN : oi.dst = some N := by rfl) (hl : l.setIfInBounds i true = l' := by simp only [List.setIfInBounds_toArray, List.set_cons_zero, List.set_cons_succ]; rfl)
    (hc : takeB md ops ds l l' i = true := by kernel_rfl) (hQ : ∀ c a w, Q (.panic c) (a.put oi.dst v) w → Q (.panic c) a w := by exact fun _ _ _ h => h) (hw : Region.wanted oi (yielded ops a.tmps) = true := by kernel_rfl)
    (hy : ∀ w', S w' → (execOp a.eval oi).run P w' = .ok (.value v) w' := by intro w' hs; (repeat (obtain ⟨s_, hs⟩ := hs)); go_simp; with_reducible rfl) (ha : a.put (some N) v = a' := by simp only [Act.put, List.setIfInBounds_toArray, List.set_cons_zero, List.set_cons_succ, i64_w, i32_w]; rfl) :
    wpAnyLast P md ops Q S ds (fuel + 1) l a w := take_ l' hi hN hc hQ (Or.inl ⟨hw, hy⟩) hS ha h
/-- A pure step, by the table. -/
theorem rgpt (i N : Nat) (h : wpAnyLast P md ops Q S ds fuel l' a' w) (hT : Aside0 (rtab md ops = T) := by assumption) (hi : ops[i]? = some oi := by rfl) (hN : oi.dst = some N := by rfl) (hl : l.setIfInBounds i true = l' := by simp only [List.setIfInBounds_toArray, List.set_cons_zero, List.set_cons_succ]; rfl)
    (hc : anyT T l.toList l'.toList i = true := by kernel_rfl) (hQ : ∀ c a w, Q (.panic c) (a.put oi.dst v) w → Q (.panic c) a w := by exact fun _ _ _ h => h) (hw : Region.wanted oi (yielded ops a.tmps) = true := by kernel_rfl)
    (hy : ∀ w', (execOp a.eval oi).run P w' = .ok (.value v) w' := by intro w'; go_simp; with_reducible rfl) (ha : a.put (some N) v = a' := by simp only [Act.put, List.setIfInBounds_toArray, List.set_cons_zero, List.set_cons_succ, i64_w, i32_w]; rfl) :
    wpAnyLast P md ops Q S ds (fuel + 1) l a w := pure_ l' hi hN (any_of hT.out hc) hQ (Or.inl ⟨hw, hy⟩) ha h
/-- A load, by the table. -/
theorem rgtt (i N : Nat) (hS : S w) (h : wpAnyLast P md ops Q S ds fuel l' a' w) (hT : Aside0 (rtab md ops = T) := by assumption) (hB : Aside0 (waitsOk T.2 B = true) := by assumption) (hi : ops[i]? = some oi := by rfl) (hN : oi.dst = some N := by rfl) (hl : l.setIfInBounds i true = l' := by simp only [List.setIfInBounds_toArray, List.set_cons_zero, List.set_cons_succ]; rfl)
    (hc : takeW T B ds l.toList l'.toList i = true := by kernel_rfl) (hQ : ∀ c a w, Q (.panic c) (a.put oi.dst v) w → Q (.panic c) a w := by exact fun _ _ _ h => h) (hw : Region.wanted oi (yielded ops a.tmps) = true := by kernel_rfl)
    (hy : ∀ w', S w' → (execOp a.eval oi).run P w' = .ok (.value v) w' := by intro w' hs; (repeat (obtain ⟨s_, hs⟩ := hs)); go_simp; with_reducible rfl) (ha : a.put (some N) v = a' := by simp only [Act.put, List.setIfInBounds_toArray, List.set_cons_zero, List.set_cons_succ, i64_w, i32_w]; rfl) :
    wpAnyLast P md ops Q S ds (fuel + 1) l a w := take_ l' hi hN (take_ofW hT.out hB.out hc) hQ (Or.inl ⟨hw, hy⟩) hS ha h
end
theorem cells11 (w : World) (g : Nat) {a0 a1 a2 a3 a4 a5 a6 a7 a8 a9 a10 : Value} {r : List Value} {T : TypeId} (h : w.heap[g]? = some (.cells (a0 :: a1 :: a2 :: a3 :: a4 :: a5 :: a6 :: a7 :: a8 :: a9 :: a10 :: r).toArray T (0, 0))) : w.cell? ⟨g, 0, none⟩ = some a0 ∧ w.cell? ⟨g, 1, none⟩ = some a1 ∧ w.cell? ⟨g, 2, none⟩ = some a2 ∧ w.cell? ⟨g, 3, none⟩ = some a3 ∧ w.cell? ⟨g, 4, none⟩ = some a4 ∧ w.cell? ⟨g, 5, none⟩ = some a5 ∧ w.cell? ⟨g, 6, none⟩ = some a6 ∧ w.cell? ⟨g, 7, none⟩ = some a7 ∧ w.cell? ⟨g, 8, none⟩ = some a8 ∧ w.cell? ⟨g, 9, none⟩ = some a9 ∧ w.cell? ⟨g, 10, none⟩ = some a10 := ⟨blk_cell h 0, blk_cell h 1, blk_cell h 2, blk_cell h 3, blk_cell h 4, blk_cell h 5, blk_cell h 6, blk_cell h 7, blk_cell h 8, blk_cell h 9, blk_cell h 10⟩
end Go.Proofs.Ytcelfhoomhmioaa.Rgn
set_option maxRecDepth 8192
namespace Go.Proofs.Ytcelfhoomhmioaa.Arr
open Go Go.RowKit Go.Proofs.YtcelfhoomhmioaaW.PrintWords
/-- The cells of a string's bytes. -/
def row (s : ByteArray) : Array Value := (Lib.byteCells s.data.toList).toArray
theorem row_size (s : ByteArray) : (row s).size = s.size := by simp [row, Lib.byteCells_length]
/-- n noughts. -/
def noughts (n : Nat) : ByteArray := ⟨(List.replicate n (0 : UInt8)).toArray⟩
theorem noughts_size (n : Nat) : (noughts n).size = n := by simp [noughts, ByteArray.size]
theorem row_noughts (n : Nat) : row (noughts n) = Array.replicate n (.int .u8 0) := by
  simp [row, noughts, Lib.byteCells]
/-- s put into t at o. -/
def splice (t : ByteArray) (o : Nat) (s : ByteArray) : ByteArray := ⟨(t.data.toList.take o ++ s.data.toList ++ t.data.toList.drop (o + s.size)).toArray⟩
theorem splice_size (t : ByteArray) (o : Nat) (s : ByteArray) (h : o + s.size ≤ t.size) : (splice t o s).size = t.size := by
  have e1 : t.data.toList.length = t.size := by simp
  have e2 : s.data.toList.length = s.size := by simp
  have e : (splice t o s).size = (t.data.toList.take o ++ s.data.toList ++ t.data.toList.drop (o + s.size)).length := List.size_toArray ..
  rw [e]
  simp only [List.length_append, List.length_take, List.length_drop, e1, e2]
  omega
theorem row_cell (s : ByteArray) (i : Nat) (h : i < s.size) : (row s)[i]? = some (.int .u8 (s[i].toNat : Int)) := by
  have h1 : i < s.data.toList.length := by simpa using h
  simp only [row, Lib.byteCells, List.getElem?_toArray, List.getElem?_map, List.getElem?_eq_getElem h1, Option.map_some]
  rfl
theorem bytes_of_row {w : World} {b : Nat} {T : TypeId} {s : ByteArray} {fr : Nat × Nat} (h : w.heap[b]? = some (.cells (row s) T fr)) : Lib.Bytes w b 0 s := by
  intro i hi
  rw [Nat.zero_add, cell_of_row w b i _ T fr h]
  exact row_cell s i hi
/-- 'string(b[j:j+n])'. -/
theorem conv_row {P : Program} {w : World} {b : Nat} {T : TypeId} {s : ByteArray} {fr : Nat × Nat} (h : w.heap[b]? = some (.cells (row s) T fr)) (src e dst : TypeId) (hs : P.underlying src = some (.slice e)) (he : P.underlying e = some (.int .u8)) (hd : P.underlying dst = some .string) (j n cap : Nat) (hj : j + n ≤ s.size) :
    (convert src dst (.slice (some ⟨b, j, none⟩) n cap)).run P w = .ok (.string (s.extract j (j + n))) w := by
  have h1 := Lib.run_convert_window (P := P) w src e dst hs he hd b 0 s (bytes_of_row h) j n cap hj
  rwa [Nat.zero_add] at h1
theorem conv_whole {P : Program} {w : World} {b : Nat} {T : TypeId} {s : ByteArray} {fr : Nat × Nat} (h : w.heap[b]? = some (.cells (row s) T fr)) (src e dst : TypeId) (hs : P.underlying src = some (.slice e)) (he : P.underlying e = some (.int .u8)) (hd : P.underlying dst = some .string) (n cap : Nat) (hn : s.size = n) :
    (convert src dst (.slice (some ⟨b, 0, none⟩) n cap)).run P w = .ok (.string s) w := by
  subst hn
  exact Lib.run_convert_whole (P := P) w src e dst hs he hd b 0 s (bytes_of_row h) cap
/-- 'copy(b[o:], s)', s a string that fits. -/
theorem copy_row {P : Program} {w : World} {g : Nat} {T : TypeId} {t : ByteArray} (h : w.heap[g]? = some (.cells (row t) T (0, 0))) (dT sT ty elem : TypeId) (hu : P.underlying dT = some (.slice elem)) (hs : (P.info? elem).map (·.size) = some 1) (o dLen dCap : Nat) (s : ByteArray) (hle : s.size ≤ dLen) (hfit : o + s.size ≤ t.size) :
    (Builtin.copy_ #[dT, sT] ty #[.slice (some ⟨g, o, none⟩) dLen dCap, .string s]).run P w = .ok (goInt s.size) (w.setRow g (row (splice t o s))) := by
  rw [Lib.run_copy_row_string w dT sT ty elem g o dLen dCap s (row t) T hu hs h hle (by rw [row_size]; exact hfit)]
  congr 2
  simp [row, splice, Lib.byteCells, List.map_append, List.map_take, List.map_drop]
theorem set_row {w : World} {g : Nat} {T : TypeId} {cs : Array Value} {fr : Nat × Nat} (h : w.heap[g]? = some (.cells cs T fr)) (cs' : Array Value) : (w.setRow g cs').heap[g]? = some (.cells cs' T fr) := setRow_heap w g cs cs' T fr h
theorem below_setRow {w0 w : World} {B g : Nat} (h : Below B w0 w) (hg : B ≤ g) (cs : Array Value) : Below B w0 (w.setRow g cs) :=
  h.trans ⟨rfl, rfl, rfl, by simp, fun k hk => setRow_other w g k cs (by omega)⟩
/-- What stays: Below, from one world to the next. -/
theorem below_trans {w w1 w2 : World} (h : Below w.heap.size w w1) (k : Below w1.heap.size w1 w2) : Below w.heap.size w w2 := h.trans (k.mono h.size)
theorem two_blocks (w : World) (o1 o2 : Obj) : ((w.alloc o1).alloc o2).heap[w.heap.size]? = some o1 ∧ ((w.alloc o1).alloc o2).heap[w.heap.size + 1]? = some o2 ∧ ((w.alloc o1).alloc o2).heap.size = w.heap.size + 2 ∧ Below w.heap.size w ((w.alloc o1).alloc o2) := by
  refine ⟨?_, ?_, by simp, ((Below.refl _ _).alloc (Nat.le_refl _) _).alloc (by simp) _⟩
  · rw [Below.heap_alloc _ _ _ (by simp)]; exact heap_alloc_new _ _
  · rw [← World.size_alloc w o1]; exact heap_alloc_new _ _
end Go.Proofs.Ytcelfhoomhmioaa.Arr
set_option maxRecDepth 8192
namespace Go.Proofs.Ytcelfhoomhmioaa.Mp
open Go Go.RowKit Go.MapKept Go.ChangeMaps Go.Proofs.Ytcelfhoomhmioaa.Arr
set_option linter.unusedVariables false
set_option linter.unusedSimpArgs false
abbrev En := Int × ByteArray × Nat
def ent (p : En) : MapEntry := ⟨.int .i64 p.1, .string p.2.1, p.2.2⟩
def ents (L : List En) : Array MapEntry := (L.map ent).toArray
def getM : List En → Int → Option ByteArray
  | [], _ => none
  | p :: r, k => if k = p.1 then some p.2.1 else getM r k
def findM : List En → Int → Nat → Option (Nat × ByteArray)
  | [], _, _ => none
  | p :: r, k, i => if k = p.1 then some (i, p.2.1) else findM r k (i + 1)
theorem find_get (k : Int) : ∀ (L : List En) (i : Nat), (findM L k i).map (·.2) = getM L k
  | [], _ => rfl
  | p :: r, i => by
    unfold findM getM
    by_cases h : k = p.1
    · rw [if_pos h, if_pos h]; rfl
    · rw [if_neg h, if_neg h]; exact find_get k r (i + 1)
theorem findNow_eq (k : Int) : ∀ (L : List En) (i : Nat), Instr.findNow (.int .i64) (.int .i64 k) (L.map ent) i = some ((findM L k i).map fun p => (p.1, .string p.2))
  | [], _ => rfl
  | p :: r, i => by
    have h1 : Instr.sameNow (.int .i64) (.int .i64 k) (ent p).key = some (k == p.1) := by simp [Instr.sameNow, ent]
    rw [List.map_cons, Instr.findNow, h1]
    unfold findM
    by_cases h : k = p.1
    · rw [if_pos h, beq_iff_eq.2 h]; rfl
    · rw [if_neg h, beq_eq_false_iff_ne.2 h]; exact findNow_eq k r (i + 1)
theorem find_at (k : Int) : ∀ (L : List En) (i j : Nat) (v : ByteArray), findM L k i = some (j, v) → ∃ b, i ≤ j ∧ L[j - i]? = some (k, v, b)
  | [], _, _, _, h => by cases h
  | p :: r, i, j, v, h => by
    unfold findM at h
    by_cases e : k = p.1
    · rw [if_pos e] at h
      cases h
      exact ⟨p.2.2, Nat.le_refl _, by rw [Nat.sub_self, e]; rfl⟩
    · rw [if_neg e] at h
      obtain ⟨b, h1, h2⟩ := find_at k r (i + 1) j v h
      refine ⟨b, by omega, ?_⟩
      rw [show j - i = (j - (i + 1)) + 1 by omega, List.getElem?_cons_succ]
      exact h2
theorem find_none (k : Int) : ∀ (L : List En) (i : Nat), findM L k i = none → ∀ p ∈ L, p.1 ≠ k
  | [], _, _, p, hp => by cases hp
  | q :: r, i, h, p, hp => by
    unfold findM at h
    by_cases e : k = q.1
    · rw [if_pos e] at h; cases h
    · rw [if_neg e] at h
      rcases List.mem_cons.1 hp with rfl | hp
      · exact fun e2 => e e2.symm
      · exact find_none k r (i + 1) h p hp
theorem get_none {k : Int} : ∀ {L : List En}, (∀ p ∈ L, p.1 ≠ k) → getM L k = none
  | [], _ => rfl
  | p :: r, h => by
    unfold getM
    rw [if_neg (fun e => h p (by simp) e.symm)]
    exact get_none (fun q hq => h q (by simp [hq]))
theorem get_append (k : Int) (v : ByteArray) (c : Nat) (j : Int) : ∀ (L : List En), getM (L ++ [(k, v, c)]) j = match getM L j with | some x => some x | none => if j = k then some v else none
  | [] => by simp [getM]
  | p :: r => by
    rw [List.cons_append]
    unfold getM
    by_cases h : j = p.1
    · simp [h]
    · rw [if_neg h, if_neg h]; exact get_append k v c j r
/-- What a map's list is to be: no key twice, no stamp twice, all stamps below the clock. -/
structure MI (L : List En) (c : Nat) : Prop where
  keys : (L.map (·.1)).Nodup
  borns : (L.map (·.2.2)).Nodup
  below : ∀ p ∈ L, p.2.2 < c
theorem MI.nil (c : Nat) : MI [] c := ⟨List.nodup_nil, List.nodup_nil, fun _ h => by cases h⟩
theorem MI.push {L : List En} {c : Nat} (h : MI L c) {k : Int} (hk : ∀ p ∈ L, p.1 ≠ k) (v : ByteArray) : MI (L ++ [(k, v, c)]) (c + 1) := by
  refine ⟨?_, ?_, fun p hp => ?_⟩
  · rw [List.map_append]
    refine List.nodup_append.2 ⟨h.keys, by simp, ?_⟩
    intro a ha b hb
    obtain ⟨p, hp, rfl⟩ := List.mem_map.1 ha
    simp at hb
    subst hb
    exact hk p hp
  · rw [List.map_append]
    refine List.nodup_append.2 ⟨h.borns, by simp, ?_⟩
    intro a ha b hb
    obtain ⟨p, hp, rfl⟩ := List.mem_map.1 ha
    simp at hb
    subst hb
    have := h.below p hp
    omega
  · rcases List.mem_append.1 hp with hp | hp
    · have := h.below p hp; omega
    · simp at hp; subst hp; simp
theorem map_modify_same {α β : Type} (f : α → β) (g : α → α) : ∀ (l : List α) (i : Nat) (x : α), l[i]? = some x → f (g x) = f x → (l.modify i g).map f = l.map f
  | [], i, x, h, _ => by simp at h
  | y :: r, 0, x, h, e => by simp at h; subst h; simp [e]
  | y :: r, i + 1, x, h, e => by simp at h; simp [map_modify_same f g r i x h e]
theorem MI.set {L : List En} {c : Nat} (h : MI L c) {i : Nat} {k : Int} {v0 : ByteArray} {b : Nat} (hi : L[i]? = some (k, v0, b)) (v : ByteArray) : MI (L.modify i fun p => (k, v, p.2.2)) c := by
  have h1 := map_modify_same (fun p : En => p.1) (fun p => (k, v, p.2.2)) L i _ hi rfl
  have h2 := map_modify_same (fun p : En => p.2.2) (fun p => (k, v, p.2.2)) L i _ hi rfl
  refine ⟨by rw [h1]; exact h.keys, by rw [h2]; exact h.borns, fun p hp => ?_⟩
  have : p.2.2 ∈ (L.modify i fun p => (k, v, p.2.2)).map (·.2.2) := List.mem_map.2 ⟨p, hp, rfl⟩
  rw [h2] at this
  obtain ⟨q, hq, e⟩ := List.mem_map.1 this
  rw [← e]
  exact h.below q hq
theorem get_modify (k : Int) (v : ByteArray) (j : Int) : ∀ (L : List En) (i : Nat) (x : ByteArray), findM L k 0 = some (i, x) → getM (L.modify i fun p => (k, v, p.2.2)) j = if j = k then some v else getM L j := by
  have gen : ∀ (L : List En) (s i : Nat) (x : ByteArray), findM L k s = some (s + i, x) → getM (L.modify i fun p => (k, v, p.2.2)) j = if j = k then some v else getM L j := by
    intro L
    induction L with
    | nil => intro s i x h; cases h
    | cons p r ih =>
      intro s i x h
      unfold findM at h
      by_cases e : k = p.1
      · rw [if_pos e] at h
        have hi : i = 0 := by injection h with h; injection h with h1 h2; omega
        subst hi
        rw [List.modify_zero_cons]
        unfold getM
        simp only
        by_cases ej : j = k
        · rw [if_pos ej, if_pos ej]
        · rw [if_neg ej, if_neg ej, if_neg (by rw [← e]; exact ej)]
      · rw [if_neg e] at h
        obtain ⟨b, h1, _⟩ := find_at k r (s + 1) (s + i) x h
        obtain ⟨i', rfl⟩ : ∃ i', i = i' + 1 := ⟨i - 1, by omega⟩
        rw [show s + (i' + 1) = (s + 1) + i' by omega] at h
        have := ih (s + 1) i' x h
        rw [List.modify_succ_cons]
        unfold getM
        by_cases ej : j = p.1
        · rw [if_pos ej, if_pos ej, if_neg (by rw [ej]; exact fun e2 => e e2.symm)]
        · rw [if_neg ej, if_neg ej]; exact this
  intro L i x h
  exact gen L 0 i x (by rw [Nat.zero_add]; exact h)
theorem get_of_mem : ∀ {L : List En} {c : Nat} {k : Int} {v : ByteArray} {b : Nat}, (L.map (·.1)).Nodup → (k, v, b) ∈ L → getM L k = some v
  | p :: r, c, k, v, b, hn, h => by
    have hn' := List.nodup_cons.1 hn
    unfold getM
    rcases List.mem_cons.1 h with rfl | h
    · rw [if_pos rfl]
    · rw [if_neg]
      · exact get_of_mem (c := c) hn'.2 h
      · intro e
        exact hn'.1 (List.mem_map.2 ⟨(k, v, b), h, e⟩)
theorem get_erase (k : Int) (j : Int) : ∀ (L : List En) (i : Nat) (x : ByteArray), (L.map (·.1)).Nodup → findM L k 0 = some (i, x) → getM (L.eraseIdx i) j = if j = k then none else getM L j := by
  have gen : ∀ (L : List En) (s i : Nat) (x : ByteArray), (L.map (·.1)).Nodup → findM L k s = some (s + i, x) → getM (L.eraseIdx i) j = if j = k then none else getM L j := by
    intro L
    induction L with
    | nil => intro s i x _ h; cases h
    | cons p r ih =>
      intro s i x hn h
      have hn' := List.nodup_cons.1 hn
      unfold findM at h
      by_cases e : k = p.1
      · rw [if_pos e] at h
        have hi : i = 0 := by injection h with h; injection h with h1 h2; omega
        subst hi
        rw [List.eraseIdx_zero, List.tail_cons]
        conv => rhs; unfold getM
        by_cases ej : j = k
        · rw [if_pos ej]
          refine get_none (fun q hq e2 => hn'.1 ?_)
          exact List.mem_map.2 ⟨q, hq, e2.trans (ej.trans e)⟩
        · rw [if_neg ej, if_neg (by rw [← e]; exact ej)]
      · rw [if_neg e] at h
        obtain ⟨b, h1, _⟩ := find_at k r (s + 1) (s + i) x h
        obtain ⟨i', rfl⟩ : ∃ i', i = i' + 1 := ⟨i - 1, by omega⟩
        rw [show s + (i' + 1) = (s + 1) + i' by omega] at h
        have := ih (s + 1) i' x hn'.2 h
        rw [List.eraseIdx_cons_succ]
        unfold getM
        by_cases ej : j = p.1
        · rw [if_pos ej, if_pos ej, if_neg (by rw [ej]; exact fun e2 => e e2.symm)]
        · rw [if_neg ej, if_neg ej]; exact this
  intro L i x hn h
  exact gen L 0 i x hn (by rw [Nat.zero_add]; exact h)
/-- Block m is a map in which k has f k. -/
def MP (w : World) (m : Nat) (f : Int → Option ByteArray) : Prop := ∃ L c, w.heap[m]? = some (.map (ents L) c) ∧ MI L c ∧ ∀ k, getM L k = f k
theorem MP.lt {w : World} {m : Nat} {f : Int → Option ByteArray} (h : MP w m f) : m < w.heap.size := by
  obtain ⟨L, c, h, _⟩ := h
  rcases Nat.lt_or_ge m w.heap.size with h1 | h1
  · exact h1
  · simp [Array.getElem?_eq_none h1] at h
theorem MP.same {w w' : World} {m : Nat} {f : Int → Option ByteArray} (h : MP w m f) (e : w'.heap[m]? = w.heap[m]?) : MP w' m f := by
  obtain ⟨L, c, h1, h2, h3⟩ := h
  exact ⟨L, c, e.trans h1, h2, h3⟩
theorem MP.made (w : World) : MP (w.alloc (.map #[] 0)) w.heap.size (fun _ => none) := ⟨[], 0, heap_alloc_new w _, MI.nil 0, fun _ => rfl⟩
section
variable {P : Program} {w : World} {t k e : TypeId} {m : Nat} {f : Int → Option ByteArray}
theorem checkKey_int (hk : P.underlying k = some (.int .i64)) (w : World) (em : Bool) (i : Int) : (Instr.checkKey em 10000 k (.int .i64 i)).run P w = .ok () w :=
  run_checkKey hk (by simp [IsKey]) em 9999
theorem run_lookup_mp (ht : P.underlying t = some (.map k e)) (hk : P.underlying k = some (.int .i64)) (hz : ∀ w, (zeroValue e).run P w = .ok (.string ⟨#[]⟩) w) (h : MP w m f) (i : Int) :
    (Instr.lookup t (.map (some m)) (.int .i64 i) true).run P w = .ok (.tuple #[.string ((f i).getD ⟨#[]⟩), .bool (f i).isSome]) w := by
  obtain ⟨L, c, h1, h2, h3⟩ := h
  have hf : (Instr.findKey k (.int .i64 i) (L.map ent)).run P w = .ok ((findM L i 0).map fun p => (p.1, .string p.2)) w := by
    simp [Instr.findKey, run_underlying hk, findNow_eq]
  have hg := find_get i L 0
  rw [h3] at hg
  cases hq : findM L i 0 with
  | none =>
    rw [hq] at hf hg
    have : f i = none := hg.symm
    simp [Instr.lookup, run_underlying ht, MapKept.run_getObj_map h1, checkKey_int hk, ents, hf, hz, this, Result.andThen]
  | some p =>
    rw [hq] at hf hg
    have : f i = some p.2 := hg.symm
    simp [Instr.lookup, run_underlying ht, MapKept.run_getObj_map h1, checkKey_int hk, ents, hf, hz, this, Result.andThen]
theorem setBlock_at (w : World) (m : Nat) (o : Obj) (h : m < w.heap.size) : (setBlock w m o).heap[m]? = some o := by
  show (w.heap.setIfInBounds m o)[m]? = _
  simp [h]
theorem setBlock_other (w : World) (m : Nat) (o : Obj) {j : Nat} (h : j ≠ m) : (setBlock w m o).heap[j]? = w.heap[j]? := by
  show (w.heap.setIfInBounds m o)[j]? = _
  simp [Ne.symm h]
theorem setBlock_size (w : World) (m : Nat) (o : Obj) : (setBlock w m o).heap.size = w.heap.size := by
  show (w.heap.setIfInBounds m o).size = _
  simp
theorem run_update_mp (ht : P.underlying t = some (.map k e)) (hk : P.underlying k = some (.int .i64)) (h : MP w m f) (i : Int) (s : ByteArray) :
    ∃ o, (Instr.mapUpdate t (.map (some m)) (.int .i64 i) (.string s)).run P w = .ok () (setBlock w m o) ∧ MP (setBlock w m o) m (fun j => if j = i then some s else f j) := by
  have hlt := h.lt
  obtain ⟨L, c, h1, h2, h3⟩ := h
  have hf : (Instr.findKey k (.int .i64 i) (L.map ent)).run P w = .ok ((findM L i 0).map fun p => (p.1, .string p.2)) w := by
    simp [Instr.findKey, run_underlying hk, findNow_eq]
  cases hq : findM L i 0 with
  | none =>
    rw [hq] at hf
    have hn := find_none i L 0 hq
    refine ⟨.map (ents (L ++ [(i, s, c)])) (c + 1), ?_, L ++ [(i, s, c)], c + 1, setBlock_at w m _ hlt, h2.push hn s, fun j => ?_⟩
    · have e1 : (ents L).push (ent (i, s, c)) = ents (L ++ [(i, s, c)]) := by simp [ents]
      have e2 : (⟨.int .i64 i, .string s, c⟩ : MapEntry) = ent (i, s, c) := rfl
      have hl : (ents L).toList = L.map ent := by simp [ents]
      simp only [Instr.mapUpdate, Sem.run_bind, run_underlying ht, MapKept.run_getObj_map h1, checkKey_int hk, hl, hf, MapKept.run_setObj_map _ h1, Result.andThen, Option.map_none, e2, e1]
      rfl
    · rw [get_append, h3]
      show _ = if j = i then some s else f j
      by_cases ej : j = i
      · subst ej
        rw [← h3, get_none hn]
      · rw [if_neg ej, if_neg ej]
        cases f j <;> rfl
  | some p =>
    obtain ⟨a, x⟩ := p
    rw [hq] at hf
    obtain ⟨b, _, hb⟩ := find_at i L 0 a x hq
    rw [Nat.sub_zero] at hb
    refine ⟨.map (ents (L.modify a fun p => (i, s, p.2.2))) c, ?_, _, c, setBlock_at w m _ hlt, h2.set hb s, fun j => ?_⟩
    · have hl : (ents L).toList = L.map ent := by simp [ents]
      have ha : (ents L)[a]? = some (ent (i, x, b)) := by simp [ents, hb]
      have hks : (Instr.keyThatStays (.int .i64 i) (.int .i64 i)).run P w = .ok (.int .i64 i) w := by
        have e0 : Instr.sameBits 10000 (.int .i64 i) (.int .i64 i) = true := by simp [Instr.sameBits]
        unfold Instr.keyThatStays
        rw [e0]
        rfl
      have e1 : (ents L).modify a (fun e => { e with key := .int .i64 i, val := .string s }) = ents (L.modify a fun p => (i, s, p.2.2)) := by
        apply Array.toList_inj.1
        rw [Array.toList_modify]
        simp only [ents]
        apply List.ext_getElem?
        intro q
        simp only [List.getElem?_modify, List.getElem?_map]
        by_cases hqa : a = q
        · subst hqa; simp [hb, ent]
        · simp [hqa]
      have ek : (ent (i, x, b)).key = .int .i64 i := rfl
      simp only [Instr.mapUpdate, Sem.run_bind, run_underlying ht, MapKept.run_getObj_map h1, checkKey_int hk, hl, hf, Result.andThen, Option.map_some, ha, ek, Option.getD_some, hks, MapKept.run_setObj_map _ h1, e1]
      rfl
    · rw [get_modify i s j L a x hq, h3]
theorem run_clear_mp (ht : P.underlying t = some (.map k e)) (h : MP w m f) (ty : TypeId) :
    ∃ o, (Builtin.clear_ #[t] ty #[.map (some m)]).run P w = .ok (.tuple #[]) (setBlock w m o) ∧ MP (setBlock w m o) m (fun _ => none) := by
  have hlt := h.lt
  obtain ⟨L, c, h1, h2, h3⟩ := h
  refine ⟨.map #[] c, ?_, [], c, setBlock_at w m _ hlt, MI.nil c, fun _ => rfl⟩
  simp [Builtin.clear_, run_underlying ht, MapKept.run_getObj_map h1, MapKept.run_setObj_map _ h1, Result.andThen]
  rfl
end
end Go.Proofs.Ytcelfhoomhmioaa.Mp
set_option maxRecDepth 8192
namespace Go.Proofs.Ytcelfhoomhmioaa.Ow
open Go Go.RowKit Go.ChangeMaps Go.Proofs.Ytcelfhoomhmioaa.Arr Go.Proofs.Ytcelfhoomhmioaa.Mp
set_option linter.unusedVariables false
set_option linter.unusedSimpArgs false
/-- Nothing but blocks in S is touched. -/
structure FS (S : Nat → Prop) (w w' : World) : Prop where
  os : w'.os = w.os
  tape : w'.tape = w.tape
  output : w'.output = w.output
  size : w.heap.size ≤ w'.heap.size
  block : ∀ k, k < w.heap.size → ¬ S k → w'.heap[k]? = w.heap[k]?
theorem FS.refl (S : Nat → Prop) (w : World) : FS S w w := ⟨rfl, rfl, rfl, Nat.le_refl _, fun _ _ _ => rfl⟩
theorem FS.trans {S : Nat → Prop} {a b c : World} (h : FS S a b) (k : FS S b c) : FS S a c :=
  ⟨k.os.trans h.os, k.tape.trans h.tape, k.output.trans h.output, Nat.le_trans h.size k.size, fun i hi hn => (k.block i (Nat.lt_of_lt_of_le hi h.size) hn).trans (h.block i hi hn)⟩
/-- .. the second step may touch what is new behind the first's beginning, too. -/
theorem FS.step {S S2 : Nat → Prop} {a b c : World} (h : FS S a b) (k : FS S2 b c) (hs : ∀ i, S2 i → S i ∨ a.heap.size ≤ i) : FS S a c :=
  ⟨k.os.trans h.os, k.tape.trans h.tape, k.output.trans h.output, Nat.le_trans h.size k.size, fun i hi hn => (k.block i (Nat.lt_of_lt_of_le hi h.size) (fun e => (hs i e).elim hn (fun e2 => by omega))).trans (h.block i hi hn)⟩
theorem FS.below {S : Nat → Prop} {a b c : World} (h : FS S a b) (k : Below b.heap.size b c) : FS S a c :=
  h.step (S2 := fun _ => False) ⟨k.os, k.tape, k.output, k.size, fun i hi _ => k.block i hi⟩ (fun _ e => e.elim)
theorem FS.drew {S : Nat → Prop} {a b : World} (h : FS S a b) : FS S a b.drew := ⟨h.os, h.tape, h.output, h.size, h.block⟩
theorem FS.alloc {S : Nat → Prop} {a b : World} (h : FS S a b) (o : Obj) : FS S a (b.alloc o) :=
  h.below ((Below.refl _ _).alloc (Nat.le_refl _) _)
theorem FS.setCell {S : Nat → Prop} {a b : World} (h : FS S a b) {p : Addr} (hp : S p.block ∨ a.heap.size ≤ p.block) (v : Value) : FS S a (b.setCell p v) :=
  h.step (S2 := fun k => k = p.block) ⟨rfl, rfl, rfl, by simp [World.setCell], fun i _ hn => Below.heap_setCell b p v i hn⟩ (fun i e => by subst e; exact hp)
theorem FS.setBlock {S : Nat → Prop} {a b : World} (h : FS S a b) {m : Nat} (hp : S m ∨ a.heap.size ≤ m) (o : Obj) : FS S a (setBlock b m o) :=
  h.step (S2 := fun k => k = m) ⟨rfl, rfl, rfl, Nat.le_of_eq (setBlock_size b m o).symm, fun i _ hn => setBlock_other b m o hn⟩ (fun i e => by subst e; exact hp)
theorem FS.grown {S : Nat → Prop} {a b c : World} {row : Option Nat} (h : FS S a b) (hg : b.grownBy c row) (hr : ∀ k, row = some k → S k ∨ a.heap.size ≤ k) : FS S a c :=
  h.step (S2 := fun k => row = some k) ⟨hg.os, hg.tape, hg.output, hg.size, fun i hi hn => hg.block i hi (fun e => hn e.symm)⟩ (fun i e => hr i e)
theorem FS.of_below {B : Nat} {w w' : World} (h : Below B w w') : FS (B ≤ ·) w w' := ⟨h.os, h.tape, h.output, h.size, fun k _ hn => h.block k (by omega)⟩
theorem FS.to_below {w0 w w' : World} {S : Nat → Prop} (h0 : Below w0.heap.size w0 w) (h : FS S w w') (hS : ∀ k, S k → w0.heap.size ≤ k) : Below w0.heap.size w0 w' :=
  h0.trans ⟨h.os, h.tape, h.output, h.size, fun k hk => h.block k (Nat.lt_of_lt_of_le hk h0.size) (fun e => by have := hS k e; omega)⟩
theorem FS.mono {S S2 : Nat → Prop} {w w' : World} (h : FS S w w') (hs : ∀ k, k < w.heap.size → S k → S2 k) : FS S2 w w' := ⟨h.os, h.tape, h.output, h.size, fun k hk hn => h.block k hk (fun e => hn (hs k hk e))⟩
theorem FS.old {S : Nat → Prop} {w w' : World} (h : FS S w w') {k : Nat} {o : Obj} (hk : w.heap[k]? = some o) (hn : ¬ S k) : w'.heap[k]? = some o := by
  have hl : k < w.heap.size := by
    rcases Nat.lt_or_ge k w.heap.size with h1 | h1
    · exact h1
    · simp [Array.getElem?_eq_none h1] at hk
  exact (h.block k hl hn).trans hk
/-- A row of cells in a block of its own, that lies in S. -/
structure Ow (w : World) (S : Nat → Prop) (e : TypeId) (sz : Nat) (v : Value) (n : Nat) (xs : List Value) : Prop where
  own : w.ownsRow 0 e sz v n xs
  mem : ∀ k, v.ownBlock = some k → S k
theorem Ow.nil (w : World) (S : Nat → Prop) (e : TypeId) (sz : Nat) : Ow w S e sz (.slice none 0 0) 0 [] := ⟨World.ownsRow_nil w 0 e sz, fun _ h => by cases h⟩
theorem Ow.mono {w : World} {S S2 : Nat → Prop} {e : TypeId} {sz : Nat} {v : Value} {n : Nat} {xs : List Value} (h : Ow w S e sz v n xs) (hs : ∀ k, k < w.heap.size → S k → S2 k) : Ow w S2 e sz v n xs :=
  ⟨h.own, fun k hk => hs k (h.own.lt k hk).2 (h.mem k hk)⟩
theorem Ow.kept {w w' : World} {S S2 : Nat → Prop} {e : TypeId} {sz : Nat} {v : Value} {n : Nat} {xs : List Value} (h : Ow w S e sz v n xs) (hf : FS S2 w w') (hd : ∀ k, S k → ¬ S2 k) : Ow w' S e sz v n xs := by
  refine ⟨?_, h.mem⟩
  obtain ⟨hl, h1⟩ := h.own
  refine ⟨hl, ?_⟩
  rcases h1 with h1 | ⟨g, cap, cur, hv, hb, hg, r⟩
  · exact .inl h1
  · exact .inr ⟨g, cap, cur, hv, hb, hf.old hg (hd g (h.mem g (by rw [hv]; rfl))), r⟩
/-- .. if its own block is as it was. -/
theorem Ow.same {w w' : World} {S : Nat → Prop} {e : TypeId} {sz : Nat} {v : Value} {n : Nat} {xs : List Value} (h : Ow w S e sz v n xs) (hf : ∀ k, v.ownBlock = some k → w'.heap[k]? = w.heap[k]?) : Ow w' S e sz v n xs := by
  refine ⟨?_, h.mem⟩
  obtain ⟨hl, h1⟩ := h.own
  refine ⟨hl, ?_⟩
  rcases h1 with h1 | ⟨g, cap, cur, hv, hb, hg, r⟩
  · exact .inl h1
  · exact .inr ⟨g, cap, cur, hv, hb, (hf g (by rw [hv]; rfl)).trans hg, r⟩
/-- What a row is, opened. -/
theorem Ow.shape {w : World} {S : Nat → Prop} {e : TypeId} {sz : Nat} {v : Value} {n : Nat} {xs : List Value} (h : Ow w S e sz v n xs) : ∃ A c, v = .slice A n c ∧ n ≤ c ∧ c ≤ maxLen ∧ xs.length = n * sz := by
  obtain ⟨hl, h1⟩ := h.own
  rcases h1 with ⟨rfl, rfl⟩ | ⟨g, cap, cur, hv, hb, hg, h2, h3, h4, h5⟩
  · exact ⟨none, 0, rfl, Nat.le_refl _, by decide, hl⟩
  · exact ⟨some ⟨g, 0, none⟩, cap, hv, h2, h3, hl⟩
theorem Ow.open {w : World} {S : Nat → Prop} {e : TypeId} {sz : Nat} {v : Value} {n : Nat} {xs : List Value} (h : Ow w S e sz v n xs) (hn : 0 < n) : ∃ g c cur, v = .slice (some ⟨g, 0, none⟩) n c ∧ S g ∧ w.heap[g]? = some (.cells cur e (0, 0)) ∧ n ≤ c ∧ c ≤ maxLen ∧ cur.size = c * sz ∧ cur.toList.take (n * sz) = xs := by
  obtain ⟨hl, h1⟩ := h.own
  rcases h1 with ⟨rfl, rfl⟩ | ⟨g, cap, cur, hv, hb, hg, r⟩
  · omega
  · exact ⟨g, cap, cur, hv, h.mem g (by rw [hv]; rfl), hg, r⟩
theorem take_get {α : Type} {l : List α} {n j : Nat} {x : α} (h : (l.take n)[j]? = some x) : l[j]? = some x := by
  rw [List.getElem?_take] at h
  split at h
  · exact h
  · cases h
theorem cell_of {w : World} {g : Nat} {cur : Array Value} {e : TypeId} {xs : List Value} {n j : Nat} {x : Value} (hg : w.heap[g]? = some (.cells cur e (0, 0))) (ht : cur.toList.take n = xs) (hx : xs[j]? = some x) : w.cell? ⟨g, j, none⟩ = some x := by
  have h1 : cur.toList[j]? = some x := take_get (n := n) (by rw [ht]; exact hx)
  simp only [World.cell?, hg]
  simpa using h1
/-- A cell of it is written. -/
theorem Ow.put {w : World} {S : Nat → Prop} {e : TypeId} {sz n c g : Nat} {xs : List Value} (h : Ow w S e sz (.slice (some ⟨g, 0, none⟩) n c) n xs) (j : Nat) (hj : j < n * sz) (u : Value) : Ow (w.setCell ⟨g, j, none⟩ u) S e sz (.slice (some ⟨g, 0, none⟩) n c) n (xs.set j u) := by
  refine ⟨?_, h.mem⟩
  obtain ⟨hl, h1⟩ := h.own
  refine ⟨by rw [List.length_set]; exact hl, ?_⟩
  rcases h1 with ⟨h1, _⟩ | ⟨g', cap, cur, hv, hb, hg, h2, h3, h4, h5⟩
  · cases h1
  · cases hv
    refine .inr ⟨g, c, cur.setIfInBounds j u, rfl, hb, ?_, h2, h3, by simpa using h4, ?_⟩
    · have hl2 : g < w.heap.size := by
        rcases Nat.lt_or_ge g w.heap.size with h1 | h1
        · exact h1
        · simp [Array.getElem?_eq_none h1] at hg
      simp only [World.setCell]
      rw [Array.getElem?_modify, if_pos rfl, hg]
      rfl
    · rw [Array.toList_setIfInBounds, List.take_set, h5]
/-- 'append(v, x...)': in the block that there is, or in a new one. -/
theorem run_append_ow {P : Program} {w : World} {S : Nat → Prop} (t ty e : TypeId) (i : TypeInfo) (z : Value) (size bytes : Nat) (ht : P.underlying t = some (.slice e)) (hi : P.info? e = some i) (hz : i.zero = some z)
    (hsize : i.size = size) (hby : i.bytes = bytes) (hzs : z.cells.size = size) (hsz : 0 < size)
    (v : Value) (n : Nat) (xs : List Value) (h : Ow w S e size v n xs)
    (a : Addr) (m c : Nat) (news : List Value) (hl : news.length = m * size) (hnews : ∀ j u, news[j]? = some u → w.cell? (a.add j) = some u) (h1 : ∀ u ∈ news, u.oneCell' = true)
    (h63 : n + m ≤ maxLen) (hbytes : (n + m) * bytes ≤ 140737488355328) (hm : 0 < m) :
    ∃ v' w', (Builtin.append_ #[t, t] ty #[v, .slice (some a) m c]).run P w = .ok v' w' ∧ Ow w' (fun k => S k ∨ k = w.heap.size) e size v' (n + m) (xs ++ news) ∧ w.grownBy w' v.ownBlock ∧ (v'.ownBlock = v.ownBlock ∨ v'.ownBlock = some w.heap.size) ∧ ∃ g' c', v' = .slice (some ⟨g', 0, none⟩) (n + m) c' := by
  obtain ⟨v', w', hr, ho, hg, _⟩ := run_append_own w 0 t ty e i z size bytes ht hi hz hsize hby hzs hsz v n xs h.own a m c news hl hnews h1 h63 hbytes (Nat.zero_le _)
  have key : (v'.ownBlock = v.ownBlock ∨ v'.ownBlock = some w.heap.size) ∧ ∃ g' c', v' = .slice (some ⟨g', 0, none⟩) (n + m) c' := by
    subst hsize
    subst hby
    have hsmall : n + m ≤ 9223372036854775807 := by simp only [maxLen] at h63; omega
    rcases h.own.2 with ⟨rfl, rfl⟩ | ⟨g, cap, cur, rfl, hbg, hgc, hnc, hcm, hcs, htake⟩
    · have hr2 := run_append_nil (P := P) w t ty e i z ht hi hz a m c news hl hnews (by omega) (by omega) (by have hb := hbytes; simp only [Nat.zero_add] at hb; omega)
      rw [hr] at hr2
      injection hr2 with e1 e2
      rw [e1, Nat.zero_add]
      exact ⟨.inr rfl, _, _, rfl⟩
    · by_cases hroom : n + m ≤ cap
      · have hfit : n * i.size + news.length ≤ cur.size := by rw [hl, hcs, ← Nat.add_mul]; exact Nat.mul_le_mul_right _ hroom
        have hr2 := run_append_room (P := P) w t ty e i ht hi g n cap cur hgc a m c news hl hnews h1 hroom hfit
        rw [hr] at hr2
        injection hr2 with e1 e2
        rw [e1]
        exact ⟨.inl rfl, _, _, rfl⟩
      · have holds : ∀ j u, xs[j]? = some u → w.cell? ((⟨g, 0, none⟩ : Addr).add j) = some u := h.own.cells (g := g) rfl
        have hr2 := run_append_grow (P := P) w t ty e i z ht hi hz ⟨g, 0, none⟩ n cap xs h.own.1 holds a m c news hl hnews (by omega) (by omega) (growslice_fits (by omega) hbytes)
        rw [hr] at hr2
        injection hr2 with e1 e2
        rw [e1]
        exact ⟨.inr rfl, _, _, rfl⟩
  refine ⟨v', w', hr, ⟨ho, fun k hk => ?_⟩, hg, key⟩
  rcases key.1 with e1 | e1
  · exact .inl (h.mem k (e1 ▸ hk))
  · rw [e1] at hk
    exact .inr (by injection hk with hk; exact hk.symm)
/-- 'append' at the operation, its run known. -/
theorem ev_append {P : Program} {ops : Array Oper} {rest : List Oper} {o : Oper} {a : Act} {Q : Exit → Act → World → Prop} {W w1 : World} {v : Value} (s x : Operand) (t : TypeId) (hgd : o.guard = none)
    (ho : o.op = .call { callee := .builtin .append, args := #[s, x], argTypes := #[t, t] }) (v1 v2 : Value) (hs : a.eval s = v1) (hx : a.eval x = v2) (hr : (Builtin.append_ #[t, t] o.type #[v1, v2]).run P W = .ok v w1) (h : wpList P ops Q rest (a.put o.dst v) w1) : wpList P ops Q (o :: rest) a W := by
  refine wpList_plain hgd fun _ hK => ?_
  unfold Oper.wp execOp
  simp only [ho, resolve, invoke, builtin, Sem.run_bind, Sem.run_pure, Result.andThen_ok, List.map_toArray, List.map_cons, List.map_nil, hs, hx, hr]
  exact hK _ _ h
theorem ev_make {P : Program} {ops : Array Oper} {rest : List Oper} {o : Oper} {a : Act} {Q : Exit → Act → World → Prop} {W w1 : World} {v : Value} (s x : Operand) (t : TypeId) (hgd : o.guard = none)
    (ho : o.op = .makeSlice t s x) (v1 v2 : Value) (hs : a.eval s = v1) (hx : a.eval x = v2) (hr : (Instr.makeSlice t v1 v2).run P W = .ok v w1) (h : wpList P ops Q rest (a.put o.dst v) w1) : wpList P ops Q (o :: rest) a W := by
  refine wpList_plain hgd fun _ hK => ?_
  unfold Oper.wp execOp
  simp only [ho, Sem.run_bind, Sem.run_pure, Result.andThen_ok, hs, hx, hr]
  exact hK _ _ h
theorem made_one (z : Value) (n : Nat) : madeCells #[z] n = (List.replicate n z).toArray := by
  unfold madeCells
  apply Array.toList_inj.1
  apply List.ext_getElem?
  intro i
  simp [List.getElem?_replicate, Nat.mod_one]
  by_cases h : i < n
  · simp [h]
  · simp [h]
end Go.Proofs.Ytcelfhoomhmioaa.Ow
set_option maxRecDepth 8192
namespace Go.Proofs.Ytcelfhoomhmioaa.Dk
open Go Go.RowKit Go.ChangeMaps Go.Proofs.Ytcelfhoomhmioaa.Arr Go.Proofs.Ytcelfhoomhmioaa.Mp Go.Proofs.Ytcelfhoomhmioaa.Ow
set_option linter.unusedVariables false
set_option linter.unusedSimpArgs false
/-- What a disk holds. -/
structure DS where
  safe : List ByteArray
  row : List (Int × ByteArray)
  gone : Bool
  fuse : Int
def lastOf (row : List (Int × ByteArray)) : Int → Option ByteArray := fun i => row.foldl (fun o p => if i = p.1 then some p.2 else o) none
theorem last_nil : lastOf [] = fun _ => none := rfl
theorem last_push (row : List (Int × ByteArray)) (k : Int) (s : ByteArray) : lastOf (row ++ [(k, s)]) = fun i => if i = k then some s else lastOf row i := by
  funext i
  simp [lastOf, List.foldl_append]
def wc (row : List (Int × ByteArray)) : List Value := row.flatMap fun p => [.int .i64 p.1, .string p.2]
theorem wc_push (row : List (Int × ByteArray)) (k : Int) (s : ByteArray) : wc (row ++ [(k, s)]) = wc row ++ [.int .i64 k, .string s] := by simp [wc, List.flatMap_append]
/-- All that is new lies in S. -/
def Top (S : Nat → Prop) (w : World) : Prop := ∀ k, w.heap.size ≤ k → S k
theorem Top.next {S : Nat → Prop} {w w' : World} (h : Top S w) (hl : w.heap.size ≤ w'.heap.size) : Top S w' := fun k hk => h k (Nat.le_trans hl hk)
theorem blk_ne {w : World} {a b : Nat} {cs cs' : Array Value} {t t' : TypeId} {fr fr' : Nat × Nat} (h : w.heap[a]? = some (.cells cs t fr)) (h' : w.heap[b]? = some (.cells cs' t' fr')) (ht : t ≠ t') : a ≠ b := by
  intro e
  subst e
  rw [h] at h'
  injection h' with h'
  injection h' with _ h2 _
  exact ht h2
theorem MP.ne_cells {w : World} {m g : Nat} {f : Int → Option ByteArray} {cs : Array Value} {t : TypeId} {fr : Nat × Nat} (h : MP w m f) (hg : w.heap[g]? = some (.cells cs t fr)) : m ≠ g := by
  obtain ⟨L, c, h1, _⟩ := h
  intro e
  subst e
  rw [hg] at h1
  cases h1
theorem ow_ne {w : World} {S : Nat → Prop} {e : TypeId} {sz : Nat} {v : Value} {n : Nat} {xs : List Value} (h : Ow w S e sz v n xs) {g : Nat} {cs : Array Value} {t : TypeId} {fr : Nat × Nat} (hg : w.heap[g]? = some (.cells cs t fr)) (ht : e ≠ t) : ∀ k, v.ownBlock = some k → k ≠ g := by
  intro k hk
  rcases h.own.2 with ⟨h1, _⟩ | ⟨g', cap, cur, hv, _, h2, _⟩
  · rw [h1] at hk; cases hk
  · rw [hv] at hk
    injection hk with hk
    subst hk
    exact blk_ne h2 hg ht
theorem ow_ne2 {w : World} {S S' : Nat → Prop} {e e' : TypeId} {sz sz' : Nat} {v v' : Value} {n n' : Nat} {xs xs' : List Value} (h : Ow w S e sz v n xs) (h' : Ow w S' e' sz' v' n' xs') (ht : e ≠ e') : ∀ k, v.ownBlock = some k → v'.ownBlock ≠ some k := by
  intro k hk hk'
  rcases h'.own.2 with ⟨h1, _⟩ | ⟨g', cap, cur, hv, _, h2, _⟩
  · rw [h1] at hk'; cases hk'
  · rw [hv] at hk'
    injection hk' with hk'
    subst hk'
    exact ow_ne h h2 ht _ hk rfl
theorem ow_nem {w : World} {S : Nat → Prop} {e : TypeId} {sz : Nat} {v : Value} {n : Nat} {xs : List Value} (h : Ow w S e sz v n xs) {m : Nat} {f : Int → Option ByteArray} (hm : MP w m f) : ∀ k, v.ownBlock = some k → k ≠ m := by
  intro k hk
  rcases h.own.2 with ⟨h1, _⟩ | ⟨g', cap, cur, hv, _, h2, _⟩
  · rw [h1] at hk; cases hk
  · rw [hv] at hk
    injection hk with hk
    subst hk
    exact (MP.ne_cells hm h2).symm
abbrev TD : TypeId := 103
abbrev TW : TypeId := 151
abbrev TS : TypeId := 9
structure DV (w : World) (S : Nat → Prop) (g : Nat) (d : DS) (f : Int → Option ByteArray) (sv rv : Value) (m : Nat) : Prop where
  blk : w.heap[g]? = some (.cells #[sv, rv, .map (some m), .bool d.gone, .int .i64 d.fuse] TD (0, 0))
  safe : Ow w S TS 1 sv d.safe.length (d.safe.map .string)
  row : Ow w S TW 2 rv d.row.length (wc d.row)
  map : MP w m f
  sg : S g
  sm : S m
/-- Pointer g's disk is d; all its blocks lie in S. -/
def DK (w : World) (S : Nat → Prop) (g : Nat) (d : DS) : Prop := ∃ sv rv m, DV w S g d (lastOf d.row) sv rv m
section
variable {w w' : World} {S S2 : Nat → Prop} {g : Nat} {d : DS} {f : Int → Option ByteArray} {sv rv : Value} {m : Nat}
theorem DV.lt (h : DV w S g d f sv rv m) : g < w.heap.size := by
  rcases Nat.lt_or_ge g w.heap.size with h1 | h1
  · exact h1
  · have := h.blk; simp [Array.getElem?_eq_none h1] at this
theorem DV.mono (h : DV w S g d f sv rv m) (hs : ∀ k, k < w.heap.size → S k → S2 k) : DV w S2 g d f sv rv m :=
  ⟨h.blk, h.safe.mono hs, h.row.mono hs, h.map, hs g h.lt h.sg, hs m h.map.lt h.sm⟩
theorem DV.kept (h : DV w S g d f sv rv m) (hf : FS S2 w w') (hd : ∀ k, S k → ¬ S2 k) : DV w' S g d f sv rv m :=
  ⟨hf.old h.blk (hd g h.sg), h.safe.kept hf hd, h.row.kept hf hd, h.map.same (hf.block m h.map.lt (hd m h.sm)), h.sg, h.sm⟩
theorem DV.below (h : DV w S g d f sv rv m) (hb : Below w.heap.size w w') : DV w' S g d f sv rv m :=
  ⟨(hb.block g h.lt).trans h.blk, h.safe.same fun k hk => hb.block k (h.safe.own.lt k hk).2, h.row.same fun k hk => hb.block k (h.row.own.lt k hk).2, h.map.same (hb.block m h.map.lt), h.sg, h.sm⟩
theorem DV.drew (h : DV w S g d f sv rv m) : DV w.drew S g d f sv rv m := h.below ((Below.refl _ _).drew)
theorem DV.setg (h : DV w S g d f sv rv m) (i : Nat) (u : Value) {d' : DS} {rv' : Value} (hc : #[sv, rv, .map (some m), .bool d.gone, .int .i64 d.fuse].setIfInBounds i u = #[sv, rv', .map (some m), .bool d'.gone, .int .i64 d'.fuse]) (hs : d'.safe = d.safe) (hr : Ow w S TW 2 rv' d'.row.length (wc d'.row)) : DV (w.setCell ⟨g, i, none⟩ u) S g d' f sv rv' m := by
  have hb : (w.setCell ⟨g, i, none⟩ u).heap[g]? = some (.cells #[sv, rv', .map (some m), .bool d'.gone, .int .i64 d'.fuse] TD (0, 0)) := by
    simp only [World.setCell]
    rw [Array.getElem?_modify, if_pos rfl, h.blk, ← hc]
    rfl
  refine ⟨hb, ?_, hr.same fun k hk => Below.heap_setCell w ⟨g, i, none⟩ u k (ow_ne hr h.blk (by decide) k hk), h.map.same (Below.heap_setCell w ⟨g, i, none⟩ u m (MP.ne_cells h.map h.blk)), h.sg, h.sm⟩
  rw [hs]
  exact h.safe.same fun k hk => Below.heap_setCell w ⟨g, i, none⟩ u k (ow_ne h.safe h.blk (by decide) k hk)
theorem DV.set_gone (h : DV w S g d f sv rv m) (b : Bool) : DV (w.setCell ⟨g, 3, none⟩ (.bool b)) S g { d with gone := b } f sv rv m := h.setg 3 (.bool b) rfl rfl h.row
theorem DV.set_fuse (h : DV w S g d f sv rv m) (b : Int) : DV (w.setCell ⟨g, 4, none⟩ (.int .i64 b)) S g { d with fuse := b } f sv rv m := h.setg 4 (.int .i64 b) rfl rfl h.row
theorem DV.set_row (h : DV w S g d f sv rv m) {rv' : Value} {row' : List (Int × ByteArray)} (hr : Ow w S TW 2 rv' row'.length (wc row')) : DV (w.setCell ⟨g, 1, none⟩ rv') S g { d with row := row' } f sv rv' m := h.setg 1 rv' rfl rfl hr
theorem DV.set_map (h : DV w S g d f sv rv m) {o : Obj} {f' : Int → Option ByteArray} (ho : MP (setBlock w m o) m f') : DV (setBlock w m o) S g d f' sv rv m :=
  ⟨(setBlock_other w m o (MP.ne_cells h.map h.blk).symm).trans h.blk, h.safe.same fun k hk => setBlock_other w m o (ow_nem h.safe h.map k hk), h.row.same fun k hk => setBlock_other w m o (ow_nem h.row h.map k hk), ho, h.sg, h.sm⟩
theorem DV.set_safe {bs n c : Nat} (h : DV w S g d f (.slice (some ⟨bs, 0, none⟩) n c) rv m) (j : Nat) (hj : j < d.safe.length) (s : ByteArray) : DV (w.setCell ⟨bs, j, none⟩ (.string s)) S g { d with safe := d.safe.set j s } f (.slice (some ⟨bs, 0, none⟩) n c) rv m := by
  have hn : n = d.safe.length := by
    obtain ⟨A, c', e, _⟩ := h.safe.shape
    injection e
  subst hn
  have hne := ow_ne h.safe h.blk (by decide) bs rfl
  have hput := h.safe.put j (by omega) (.string s)
  refine ⟨(Below.heap_setCell w ⟨bs, j, none⟩ _ g hne.symm).trans h.blk, ?_, h.row.same fun k hk => Below.heap_setCell w ⟨bs, j, none⟩ _ k (fun e => ow_ne2 h.row h.safe (by decide) k hk (by rw [e]; rfl)), h.map.same (Below.heap_setCell w ⟨bs, j, none⟩ _ m (ow_nem h.safe h.map bs rfl).symm), h.sg, h.sm⟩
  show Ow _ S TS 1 _ (d.safe.set j s).length ((d.safe.set j s).map .string)
  rw [List.length_set, List.map_set]
  exact hput
/-- The cells of its block. -/
theorem DV.cells (h : DV w S g d f sv rv m) : (w.cell? ⟨g, 0, none⟩ = some sv ∧ w.cell? ⟨g, 1, none⟩ = some rv ∧ w.cell? ⟨g, 2, none⟩ = some (.map (some m)) ∧ w.cell? ⟨g, 3, none⟩ = some (.bool d.gone) ∧ w.cell? ⟨g, 4, none⟩ = some (.int .i64 d.fuse)) ∧ (∀ i, w.frozen? ⟨g, i, none⟩ = false) := by
  have hb := h.blk
  refine ⟨⟨?_, ?_, ?_, ?_, ?_⟩, fun i => ?_⟩
  all_goals (simp only [World.cell?, World.frozen?, hb]; try rfl)
end
theorem DV.dk {w : World} {S : Nat → Prop} {g : Nat} {d : DS} {sv rv : Value} {m : Nat} (h : DV w S g d (lastOf d.row) sv rv m) : DK w S g d := ⟨sv, rv, m, h⟩
theorem DK.lt {w : World} {S : Nat → Prop} {g : Nat} {d : DS} (h : DK w S g d) : g < w.heap.size := by obtain ⟨_, _, _, h⟩ := h; exact h.lt
theorem DK.mono {w : World} {S S2 : Nat → Prop} {g : Nat} {d : DS} (h : DK w S g d) (hs : ∀ k, k < w.heap.size → S k → S2 k) : DK w S2 g d := by obtain ⟨a, b, c, h⟩ := h; exact ⟨a, b, c, h.mono hs⟩
theorem DK.kept {w w' : World} {S S2 : Nat → Prop} {g : Nat} {d : DS} (h : DK w S g d) (hf : FS S2 w w') (hd : ∀ k, S k → ¬ S2 k) : DK w' S g d := by obtain ⟨a, b, c, h⟩ := h; exact ⟨a, b, c, h.kept hf hd⟩
theorem DK.below {w w' : World} {S : Nat → Prop} {g : Nat} {d : DS} (h : DK w S g d) (hb : Below w.heap.size w w') : DK w' S g d := by obtain ⟨a, b, c, h⟩ := h; exact ⟨a, b, c, h.below hb⟩
theorem DK.drew {w : World} {S : Nat → Prop} {g : Nat} {d : DS} (h : DK w S g d) : DK w.drew S g d := h.below ((Below.refl _ _).drew)
/-- What the words do. -/
def OkD (d : DS) : Prop := d.row.length ≤ 1000000 ∧ -1 ≤ d.fuse ∧ d.fuse < 9223372036854775808 ∧ d.safe.length ≤ 512 ∧ ∀ p ∈ d.row, 0 ≤ p.1 ∧ p.1 < d.safe.length
theorem last_mem : ∀ {row : List (Int × ByteArray)} {k : Int} {s : ByteArray}, lastOf row k = some s → (k, s) ∈ row := by
  intro row k s h
  have gen : ∀ (l : List (Int × ByteArray)) (o : Option ByteArray), l.foldl (fun o p => if k = p.1 then some p.2 else o) o = some s → (k, s) ∈ l ∨ o = some s := by
    intro l
    induction l with
    | nil => intro o h; exact .inr h
    | cons p r ih =>
      intro o h
      rcases ih _ h with h1 | h1
      · exact .inl (List.mem_cons_of_mem _ h1)
      · replace h1 : (if k = p.1 then some p.2 else o) = some s := h1
        by_cases e : k = p.1
        · rw [if_pos e] at h1
          injection h1 with h1
          left
          rw [e, ← h1]
          exact List.mem_cons_self
        · rw [if_neg e] at h1
          exact .inr h1
  rcases gen row none h with h | h
  · exact h
  · cases h
def thereD (d : DS) (i : Int) : Bool := decide (0 ≤ i) && decide (i < d.safe.length)
def bearsE (d : DS) : Int := if d.gone = true ∨ d.fuse = 0 then 4 else 0
def bearsD (d : DS) : DS := if d.gone = true then d else if d.fuse = 0 then { d with gone := true } else if 0 < d.fuse then { d with fuse := d.fuse - 1 } else d
def pushD (d : DS) (i : Int) (s : ByteArray) : DS := { d with row := d.row ++ [(i, s)] }
def writeE (d : DS) (i : Int) (s : ByteArray) : Int := if thereD d i = false then 2 else if s.size ≠ 128 then 1 else bearsE d
def writeD (d : DS) (i : Int) (s : ByteArray) : DS := if thereD d i = false then d else if s.size ≠ 128 then d else if bearsE d ≠ 0 then bearsD d else pushD (bearsD d) i s
def overF (f : Int → Option ByteArray) (safe : List ByteArray) : List ByteArray := safe.mapIdx fun i s => (f i).getD s
def settleD (d : DS) : DS := { d with row := [] }
def syncE (d : DS) : Int := bearsE d
def syncD (d : DS) : DS := if bearsE d ≠ 0 then bearsD d else settleD { bearsD d with safe := overF (lastOf d.row) d.safe }
def readE (d : DS) (i : Int) : Int := if d.gone = true then 4 else if thereD d i = false then 2 else 0
def readS (d : DS) (i : Int) : ByteArray := if readE d i ≠ 0 then ⟨#[]⟩ else (lastOf d.row i).getD ((d.safe[i.toNat]?).getD ⟨#[]⟩)
theorem bears_eq (d : DS) : bearsD d = { d with gone := (bearsD d).gone, fuse := (bearsD d).fuse } := by
  unfold bearsD
  split
  · rfl
  · split
    · rfl
    · split <;> rfl
theorem bears_row (d : DS) : (bearsD d).row = d.row := by rw [bears_eq]
theorem bears_safe (d : DS) : (bearsD d).safe = d.safe := by rw [bears_eq]
end Go.Proofs.Ytcelfhoomhmioaa.Dk
set_option maxRecDepth 8192
namespace Go.Proofs.Ytcelfhoomhmioaa.Dk
open Go Go.RowKit Go.ChangeMaps Go.Proofs.Ytcelfhoomhmioaa.Arr Go.Proofs.Ytcelfhoomhmioaa.Mp Go.Proofs.Ytcelfhoomhmioaa.Ow Go.Proofs.YtcelfhoomhmioaaW.PrintWords Go.Proofs.YtcelfhoomhmioaaW.PrintLast Go.Proofs.YtcelfhoomhmioaaW.PrintMore
set_option linter.unusedVariables false
set_option linter.unusedSimpArgs false
theorem there_calls (d : DS) (g : Nat) (i : Int) (S : Nat → Prop) (w : World) (h : DK w S g d) (ho : OkD d) : Calls Try.prog 47 #[.pointer (some ⟨g, 0, none⟩), .int .i64 i] w (fun e w' => e = .returned (.bool (thereD d i)) ∧ Below w.heap.size w w') := by
  obtain ⟨sv, rv, m, hv⟩ := h
  obtain ⟨A, c, rfl, _, _, _⟩ := hv.safe.shape
  have HV := Aside0.mk hv; clear hv
  obtain ⟨⟨c0, c1, c2, c3, c4⟩, fr_⟩ := HV.out.cells; have f0 := fr_ 0; have f1 := fr_ 1; have f2 := fr_ 2; have f3 := fr_ 3; have f4 := fr_ 4; clear fr_
  rcases Int.lt_or_le i 0 with h0 | h0
  · have e : thereD d i = false := by unfold thereD; rw [decide_eq_false (by omega)]; rfl
    rw [e]
    have t1 : decide (0 ≤ i) = false := decide_eq_false (by omega)
    clear h0 e
    go_enter Try.func47, Try.ntmps47
    go_wp2
    go_ret
    exact ⟨rfl, Below.refl _ _⟩
  · have e : thereD d i = decide (i < d.safe.length) := by unfold thereD; rw [decide_eq_true h0]; rfl
    rw [e]
    have t1 : decide (0 ≤ i) = true := decide_eq_true h0
    clear h0 e
    go_enter Try.func47, Try.ntmps47
    go_wp2
    go_ret
    exact ⟨rfl, Below.refl _ _⟩
theorem bears_calls (d : DS) (g : Nat) (S : Nat → Prop) (w : World) (h : DK w S g d) (ho : OkD d) : Calls Try.prog 77 #[.pointer (some ⟨g, 0, none⟩)] w fun e w' => e = .returned (.int .i64 (bearsE d)) ∧ DK w' S g (bearsD d) ∧ FS S w w' := by
  obtain ⟨sv, rv, m, hv⟩ := h
  have HV := Aside0.mk hv; clear hv
  obtain ⟨⟨c0, c1, c2, c3, c4⟩, fr_⟩ := HV.out.cells; have f0 := fr_ 0; have f1 := fr_ 1; have f2 := fr_ 2; have f3 := fr_ 3; have f4 := fr_ 4; clear fr_
  cases hg : d.gone with
  | true =>
    have e1 : bearsE d = 4 := by simp [bearsE, hg]
    have e2 : bearsD d = d := by simp [bearsD, hg]
    rw [e1, e2]
    rw [hg] at c3
    clear e1 e2 hg
    go_enter Try.func77, Try.ntmps77
    go_wp2
    go_ret
    exact ⟨rfl, ⟨sv, rv, m, HV.out⟩, FS.refl _ _⟩
  | false =>
    rw [hg] at c3
    by_cases h0 : d.fuse = 0
    · have e1 : bearsE d = 4 := by simp [bearsE, h0]
      have e2 : bearsD d = { d with gone := true } := by simp [bearsD, hg, h0]
      rw [e1, e2]
      have t1 : (d.fuse == 0) = true := by simp [h0]
      clear e1 e2 hg h0
      go_enter Try.func77, Try.ntmps77
      go_wp2
      go_ret
      exact ⟨rfl, ⟨sv, rv, m, HV.out.set_gone true⟩, (FS.refl _ _).setCell (.inl HV.out.sg) _⟩
    · have t1 : (d.fuse == 0) = false := by simp [h0]
      by_cases hp : 0 < d.fuse
      · have e1 : bearsE d = 0 := by simp [bearsE, hg, h0]
        have e2 : bearsD d = { d with fuse := d.fuse - 1 } := by simp [bearsD, hg, h0, hp]
        rw [e1, e2]
        have t2 : decide (0 < d.fuse) = true := decide_eq_true hp
        have hw : wrap64 (d.fuse - 1) = d.fuse - 1 := by have := ho.2.2.1; unfold wrap64; omega
        clear e1 e2 hg h0 hp ho
        go_enter Try.func77, Try.ntmps77
        go_wp2
        go_ret
        exact ⟨rfl, ⟨sv, rv, m, HV.out.set_fuse _⟩, (FS.refl _ _).setCell (.inl HV.out.sg) _⟩
      · have e1 : bearsE d = 0 := by simp [bearsE, hg, h0]
        have e2 : bearsD d = d := by simp [bearsD, hg, h0, hp]
        rw [e1, e2]
        have t2 : decide (0 < d.fuse) = false := decide_eq_false hp
        clear e1 e2 hg h0 hp ho
        go_enter Try.func77, Try.ntmps77
        go_wp2
        go_ret
        exact ⟨rfl, ⟨sv, rv, m, HV.out⟩, FS.refl _ _⟩
theorem settle_calls (d : DS) (g : Nat) (S : Nat → Prop) (w : World) (sv rv : Value) (m : Nat) (f : Int → Option ByteArray) (h : DV w S g d f sv rv m) : Calls Try.prog 78 #[.pointer (some ⟨g, 0, none⟩)] w fun e w' => e = .returned (.tuple #[]) ∧ DK w' S g (settleD d) ∧ FS S w w' := by
  have HV := Aside0.mk h; clear h
  obtain ⟨⟨c0, c1, c2, c3, c4⟩, fr_⟩ := HV.out.cells; have f0 := fr_ 0; have f1 := fr_ 1; have f2 := fr_ 2; have f3 := fr_ 3; have f4 := fr_ 4; clear fr_
  go_enter Try.func78, Try.ntmps78
  go_upto_region 1 with (fail)
  have v_ := HV.out.set_row (row' := []) (Ow.nil w S TW 2)
  have F := Aside0.mk ((FS.refl S w).setCell (p := ⟨g, 1, none⟩) (.inl HV.out.sg) (.slice none 0 0))
  clear HV c0 c1 c2 c3 c4 f0 f1 f2 f3 f4
  generalize hW : w.setCell ⟨g, 1, none⟩ (.slice none 0 0) = W at *
  clear hW
  have HV := Aside0.mk v_; clear v_
  obtain ⟨⟨c0, c1, c2, c3, c4⟩, fr_⟩ := HV.out.cells; have f0 := fr_ 0; have f1 := fr_ 1; have f2 := fr_ 2; have f3 := fr_ 3; have f4 := fr_ 4; clear fr_
  obtain ⟨o, hrun, hmp⟩ := run_clear_mp (P := Try.prog) (t := 94) (k := 3) (e := 9) (by kernel_rfl) HV.out.map 0
  have HM := Aside0.mk hmp; clear hmp
  go_wp2
  (try simp only [Exit.inBlock, Exit.then])
  refine bodyPost_end (results_none rfl _ _ _) rfl ?_
  exact ⟨rfl, ⟨sv, .slice none 0 0, m, HV.out.set_map HM.out⟩, F.out.setBlock (.inl HV.out.sm) o⟩
end Go.Proofs.Ytcelfhoomhmioaa.Dk
set_option maxRecDepth 8192
namespace Go.Proofs.Ytcelfhoomhmioaa.Dk
open Go Go.RowKit Go.ChangeMaps Go.Proofs.Ytcelfhoomhmioaa.Arr Go.Proofs.Ytcelfhoomhmioaa.Mp Go.Proofs.Ytcelfhoomhmioaa.Ow Go.Proofs.YtcelfhoomhmioaaW.PrintWords Go.Proofs.YtcelfhoomhmioaaW.PrintLast Go.Proofs.YtcelfhoomhmioaaW.PrintMore
set_option linter.unusedVariables false
set_option linter.unusedSimpArgs false
theorem infoW : (Try.prog.info? TW).map (fun i => (i.zero, i.size, i.bytes)) = some (some (.agg #[.int .i64 0, .string ⟨#[]⟩]), 2, 24) := by kernel_rfl
theorem append_row {w : World} {S : Nat → Prop} {rv : Value} (row : List (Int × ByteArray)) (i : Int) (s : ByteArray) (h : Ow w S TW 2 rv row.length (wc row)) {g0 : Nat} (hg : w.heap[g0]? = some (.cells #[.int .i64 i, .string s] TW (0, 0))) (hl : row.length ≤ 1000000) (ty : TypeId) :
    ∃ v' w', (Builtin.append_ #[101, 101] ty #[rv, .slice (some ⟨g0, 0, none⟩) 1 1]).run Try.prog w = .ok v' w' ∧ Ow w' (fun k => S k ∨ k = w.heap.size) TW 2 v' (row ++ [(i, s)]).length (wc (row ++ [(i, s)])) ∧ w.grownBy w' rv.ownBlock ∧ (v'.ownBlock = rv.ownBlock ∨ v'.ownBlock = some w.heap.size) ∧ ∃ g' c', v' = .slice (some ⟨g', 0, none⟩) (row.length + 1) c' := by
  obtain ⟨i0, hi, h2⟩ := Option.map_eq_some_iff.1 infoW
  have hz : i0.zero = some (.agg #[.int .i64 0, .string ⟨#[]⟩]) := congrArg Prod.fst h2
  have hs : i0.size = 2 := congrArg (fun p => p.2.1) h2
  have hb : i0.bytes = 24 := congrArg (fun p => p.2.2) h2
  have r := run_append_ow (P := Try.prog) (ty := ty) 101 TW i0 _ 2 24 (by kernel_rfl) hi hz hs hb rfl (by decide) rv row.length _ h ⟨g0, 0, none⟩ 1 1 [.int .i64 i, .string s] rfl (fun j u hj => ?_) (fun u hu => ?_) (by simp only [maxLen]; omega) (by omega) (by decide)
  · rw [wc_push, List.length_append]
    exact r
  · match j with
    | 0 => exact (blk_cell hg 0).trans (by simpa using hj)
    | 1 => exact (blk_cell hg 1).trans (by simpa using hj)
    | j + 2 => simp at hj
  · rcases List.mem_cons.1 hu with rfl | hu
    · rfl
    · rcases List.mem_cons.1 hu with rfl | hu
      · rfl
      · cases hu
theorem grown_blk {w w' : World} {row : Option Nat} (h : w.grownBy w' row) {g : Nat} {o : Obj} (hg : w.heap[g]? = some o) (hn : row ≠ some g) : w'.heap[g]? = some o := by
  have hl : g < w.heap.size := by
    rcases Nat.lt_or_ge g w.heap.size with h1 | h1
    · exact h1
    · simp [Array.getElem?_eq_none h1] at hg
  exact (h.block g hl (fun e => hn e.symm)).trans hg
theorem DV.grown {w w' : World} {S : Nat → Prop} {g : Nat} {d : DS} {f : Int → Option ByteArray} {sv rv rv' : Value} {m : Nat} {row' : List (Int × ByteArray)} (h : DV w S g d f sv rv m) (hg : w.grownBy w' rv.ownBlock) (hr : Ow w' S TW 2 rv' row'.length (wc row')) :
    w'.heap[g]? = some (.cells #[sv, rv, .map (some m), .bool d.gone, .int .i64 d.fuse] TD (0, 0)) ∧ DV (w'.setCell ⟨g, 1, none⟩ rv') S g { d with row := row' } f sv rv' m := by
  have hb := grown_blk hg h.blk (fun e => ow_ne h.row h.blk (by decide) g e rfl)
  refine ⟨hb, ?_⟩
  have hs : Ow w' S TS 1 sv d.safe.length (d.safe.map .string) := h.safe.same fun k hk => hg.block k (h.safe.own.lt k hk).2 (fun e => ow_ne2 h.safe h.row (by decide) k hk e.symm)
  have hm : MP w' m f := h.map.same (hg.block m h.map.lt (fun e => ow_nem h.row h.map m e.symm rfl))
  have hb2 : (w'.setCell ⟨g, 1, none⟩ rv').heap[g]? = some (.cells #[sv, rv', .map (some m), .bool d.gone, .int .i64 d.fuse] TD (0, 0)) := by
    simp only [World.setCell]
    rw [Array.getElem?_modify, if_pos rfl, hb]
    rfl
  exact ⟨hb2, hs.same fun k hk => Below.heap_setCell w' ⟨g, 1, none⟩ rv' k (ow_ne hs hb (by decide) k hk), hr.same fun k hk => Below.heap_setCell w' ⟨g, 1, none⟩ rv' k (ow_ne hr hb (by decide) k hk), hm.same (Below.heap_setCell w' ⟨g, 1, none⟩ rv' m (MP.ne_cells hm hb)), h.sg, h.sm⟩
set_option maxHeartbeats 4000000 in
theorem write_calls (d : DS) (g : Nat) (i : Int) (s : ByteArray) (S : Nat → Prop) (w : World) (hS : Top S w) (h : DK w S g d) (ho : OkD d) : Calls Try.prog 56 #[.pointer (some ⟨g, 0, none⟩), .int .i64 i, .string s] w fun e w' => e = .returned (.int .i64 (writeE d i s)) ∧ DK w' S g (writeD d i s) ∧ FS S w w' := by
  obtain ⟨sv, rv, m, hv⟩ := h
  have HV := Aside0.mk hv; have HO := Aside0.mk ho; have HS := Aside0.mk hS; clear hv ho hS
  obtain ⟨⟨c0, c1, c2, c3, c4⟩, fr_⟩ := HV.out.cells; have f0 := fr_ 0; have f1 := fr_ 1; have f2 := fr_ 2; have f3 := fr_ 3; have f4 := fr_ 4; clear fr_
  cases hT : thereD d i with
  | false =>
    have e1 : writeE d i s = 2 := by simp [writeE, hT]
    have e2 : writeD d i s = d := by simp [writeD, hT]
    rw [e1, e2]
    clear e1 e2
    go_enter Try.func56, Try.ntmps56
    go_wp2_with (go_at_call 47; with_reducible refine (there_calls d g i S _ HV.out.dk HO.out).mono ?_; rintro e w1 ⟨rfl, hb1⟩; have v_ := HV.out.below hb1; have F_ := (FS.refl S w).below hb1; clear HV hb1; have HV := Aside0.mk v_; have F := Aside0.mk F_; clear v_ F_ c0 c1 c2 c3 c4 f0 f1 f2 f3 f4; obtain ⟨⟨c0, c1, c2, c3, c4⟩, fr_⟩ := HV.out.cells; have f0 := fr_ 0; have f1 := fr_ 1; have f2 := fr_ 2; have f3 := fr_ 3; have f4 := fr_ 4; clear fr_)
    go_ret
    exact ⟨rfl, ⟨sv, rv, m, HV.out⟩, F.out⟩
  | true =>
    by_cases h128 : s.size = 128
    · have t2 : ((s.size : Int) == 128) = true := by simp [h128]
      rcases (show bearsE d = 4 ∨ bearsE d = 0 by unfold bearsE; split <;> simp) with hE | hE
      · have e1 : writeE d i s = 4 := by simp [writeE, hT, h128, hE]
        have e2 : writeD d i s = bearsD d := by simp [writeD, hT, h128, hE]
        rw [e1, e2]
        clear e1 e2 h128
        go_enter Try.func56, Try.ntmps56
        go_wp2_with (first | (go_at_call 47; with_reducible refine (there_calls d g i S _ HV.out.dk HO.out).mono ?_; rintro e w1 ⟨rfl, hb1⟩; have v_ := HV.out.below hb1; have F_ := (FS.refl S w).below hb1; clear HV hb1; have HV := Aside0.mk v_; have F := Aside0.mk F_; clear v_ F_ c0 c1 c2 c3 c4 f0 f1 f2 f3 f4; obtain ⟨⟨c0, c1, c2, c3, c4⟩, fr_⟩ := HV.out.cells; have f0 := fr_ 0; have f1 := fr_ 1; have f2 := fr_ 2; have f3 := fr_ 3; have f4 := fr_ 4; clear fr_) | (go_at_call 77; with_reducible refine (bears_calls d g S _ HV.out.dk HO.out).mono ?_; rintro e w2 ⟨rfl, hk2, hf2⟩; have F_ := F.out.trans hf2; clear HV F hf2; have F := Aside0.mk F_; have HK := Aside0.mk hk2; clear F_ hk2 c0 c1 c2 c3 c4 f0 f1 f2 f3 f4))
        go_ret
        exact ⟨rfl, HK.out, F.out⟩
      · have e1 : writeE d i s = 0 := by simp [writeE, hT, h128, hE]
        have e2 : writeD d i s = pushD (bearsD d) i s := by simp [writeD, hT, h128, hE]
        rw [e1, e2]
        clear e1 e2 h128
        go_enter Try.func56, Try.ntmps56
        go_upto_region 10 with (first | (go_at_call 47; with_reducible refine (there_calls d g i S _ HV.out.dk HO.out).mono ?_; rintro e w1 ⟨rfl, hb1⟩; have v_ := HV.out.below hb1; have F_ := (FS.refl S w).below hb1; clear HV hb1; have HV := Aside0.mk v_; have F := Aside0.mk F_; clear v_ F_ c0 c1 c2 c3 c4 f0 f1 f2 f3 f4; obtain ⟨⟨c0, c1, c2, c3, c4⟩, fr_⟩ := HV.out.cells; have f0 := fr_ 0; have f1 := fr_ 1; have f2 := fr_ 2; have f3 := fr_ 3; have f4 := fr_ 4; clear fr_) | (go_at_call 77; with_reducible refine (bears_calls d g S _ HV.out.dk HO.out).mono ?_; rintro e w2 ⟨rfl, hk2, hf2⟩; have F_ := F.out.trans hf2; clear HV F hf2; have F := Aside0.mk F_; have HK := Aside0.mk hk2; clear F_ hk2 c0 c1 c2 c3 c4 f0 f1 f2 f3 f4))
        obtain ⟨sv, rv, m, hv⟩ := HK.out
        clear HK
        have hrow := bears_row d
        rw [hrow] at hv
        have L := Aside0.mk (show (bearsD d).row.length ≤ 1000000 by rw [hrow]; exact HO.out.1)
        have HF := Aside0.mk hrow
        clear hrow
        generalize hD : bearsD d = d2 at hv L HF
        have HD := Aside0.mk hD; clear hD
        have HV := Aside0.mk hv; clear hv
        obtain ⟨⟨c0, c1, c2, c3, c4⟩, fr_⟩ := HV.out.cells; have f0 := fr_ 0; have f1 := fr_ 1; have f2 := fr_ 2; have f3 := fr_ 3; have f4 := fr_ 4; clear fr_
        have hrw := (HV.out.below ((Below.refl w2.heap.size w2).alloc (Nat.le_refl _) (.cells #[.int .i64 i, .string s] TW))).row
        obtain ⟨rv', W4, hrun, how, hgr, hsame, g', c', hrv⟩ := append_row d2.row i s hrw (heap_alloc_new w2 _) L.out 101
        have hF3 := (F.out.alloc (.cells #[.int .i64 i, .string s] TW)).grown hgr (fun k hk => .inl (HV.out.row.mem k hk))
        have hv3 : DV (w2.alloc (.cells #[.int .i64 i, .string s] TW)) S g d2 (lastOf d.row) sv rv m := HV.out.below ((Below.refl _ _).alloc (Nat.le_refl _) _)
        have hb4 := hv3.grown hgr (how.mono (fun k _ hk => hk.elim id (fun e => HS.out k (by rw [e]; have := F.out.size; simp; omega))))
        have k1 : W4.cell? ⟨g, 1, none⟩ = some rv := (blk_cell hb4.1 1); have k2 : W4.frozen? ⟨g, 1, none⟩ = false := blk_frozen hb4.1 1
        have HG := Aside0.mk hb4.2; have HF3 := Aside0.mk (hF3.setCell (p := ⟨g, 1, none⟩) (.inl HV.out.sg) rv')
        clear hv3 hgr how hF3 hrw hb4 hsame
        subst hrv
        have HR := Aside0.mk hrun; clear hrun
        go_upto_region 11 with ((with_reducible refine gate_builtin (b := .append) (xs := #[.tmp 29, .tmp 33]) rfl ?_); at_builtin; refine ev_append (.tmp 29) (.tmp 33) 101 rfl rfl _ _ rfl rfl HR.out ?_)
        clear c0 c1 c2 c3 c4 f0 f1 f2 f3 f4 k1 k2 HV F HR
        generalize hW : W4.setCell ⟨g, 1, none⟩ (.slice (some ⟨g', 0, none⟩) (d2.row.length + 1) c') = W at *
        clear hW
        have HV := HG; have F := HF3; clear HG HF3
        obtain ⟨⟨c0, c1, c2, c3, c4⟩, fr_⟩ := HV.out.cells; have f0 := fr_ 0; have f1 := fr_ 1; have f2 := fr_ 2; have f3 := fr_ 3; have f4 := fr_ 4; clear fr_
        obtain ⟨o, hrun, hmp⟩ := run_update_mp (P := Try.prog) (t := 94) (k := 3) (e := 9) (by kernel_rfl) (by kernel_rfl) HV.out.map i s
        have HM := Aside0.mk hmp; clear hmp
        go_wp2
        go_ret
        refine ⟨rfl, ⟨sv, .slice (some ⟨g', 0, none⟩) (d2.row.length + 1) c', m, ?_⟩, F.out.setBlock (.inl HV.out.sm) o⟩
        have q := HV.out.set_map HM.out
        rw [← last_push, ← HF.out] at q
        rw [HD.out]
        exact q
    · have t2 : ((s.size : Int) == 128) = false := by simp; omega
      have e1 : writeE d i s = 1 := by simp [writeE, hT, h128]
      have e2 : writeD d i s = d := by simp [writeD, hT, h128]
      rw [e1, e2]
      clear e1 e2 h128
      go_enter Try.func56, Try.ntmps56
      go_wp2_with (go_at_call 47; with_reducible refine (there_calls d g i S _ HV.out.dk HO.out).mono ?_; rintro e w1 ⟨rfl, hb1⟩; have v_ := HV.out.below hb1; have F_ := (FS.refl S w).below hb1; clear HV hb1; have HV := Aside0.mk v_; have F := Aside0.mk F_; clear v_ F_ c0 c1 c2 c3 c4 f0 f1 f2 f3 f4; obtain ⟨⟨c0, c1, c2, c3, c4⟩, fr_⟩ := HV.out.cells; have f0 := fr_ 0; have f1 := fr_ 1; have f2 := fr_ 2; have f3 := fr_ 3; have f4 := fr_ 4; clear fr_)
      go_ret
      exact ⟨rfl, ⟨sv, rv, m, HV.out⟩, F.out⟩
end Go.Proofs.Ytcelfhoomhmioaa.Dk
set_option maxRecDepth 8192
namespace Go.Proofs.Ytcelfhoomhmioaa.Dk
open Go Go.RowKit Go.ChangeMaps Go.Proofs.Ytcelfhoomhmioaa.Arr Go.Proofs.Ytcelfhoomhmioaa.Mp Go.Proofs.Ytcelfhoomhmioaa.Ow Go.Proofs.YtcelfhoomhmioaaW.PrintWords Go.Proofs.YtcelfhoomhmioaaW.PrintLast Go.Proofs.YtcelfhoomhmioaaW.PrintMore
set_option linter.unusedVariables false
set_option linter.unusedSimpArgs false
set_option maxHeartbeats 4000000 in
theorem read_calls (d : DS) (g : Nat) (i : Int) (S : Nat → Prop) (w : World) (h : DK w S g d) (ho : OkD d) : Calls Try.prog 34 #[.pointer (some ⟨g, 0, none⟩), .int .i64 i] w fun e w' => e = .returned (.tuple #[.string (readS d i), .int .i64 (readE d i)]) ∧ Below w.heap.size w w' := by
  obtain ⟨sv, rv, m, hv⟩ := h
  have HV := Aside0.mk hv; have HO := Aside0.mk ho; have F := Aside0.mk (Below.refl w.heap.size w); clear hv ho
  obtain ⟨⟨c0, c1, c2, c3, c4⟩, fr_⟩ := HV.out.cells; have f0 := fr_ 0; have f1 := fr_ 1; have f2 := fr_ 2; have f3 := fr_ 3; have f4 := fr_ 4; clear fr_
  cases hg : d.gone with
  | true =>
    have e1 : readE d i = 4 := by simp [readE, hg]
    have e2 : readS d i = ⟨#[]⟩ := by simp [readS, e1]
    rw [e1, e2]
    rw [hg] at c3
    clear e1 e2 hg
    go_enter Try.func34, Try.ntmps34
    go_wp2
    go_ret2
    exact ⟨rfl, F.out⟩
  | false =>
    rw [hg] at c3
    cases hT : thereD d i with
    | false =>
      have e1 : readE d i = 2 := by simp [readE, hg, hT]
      have e2 : readS d i = ⟨#[]⟩ := by simp [readS, e1]
      rw [e1, e2]
      have HG := Aside0.mk hg
      clear e1 e2 hg
      go_enter Try.func34, Try.ntmps34
      go_wp2_with (go_at_call 47; with_reducible refine (there_calls d g i S _ HV.out.dk HO.out).mono ?_; rintro e w1 ⟨rfl, hb1⟩; have v_ := HV.out.below hb1; have F_ := F.out.trans hb1; clear HV F hb1; have HV := Aside0.mk v_; have F := Aside0.mk F_; clear v_ F_ c0 c1 c2 c3 c4 f0 f1 f2 f3 f4; obtain ⟨⟨c0, c1, c2, c3, c4⟩, fr_⟩ := HV.out.cells; have f0 := fr_ 0; have f1 := fr_ 1; have f2 := fr_ 2; have f3 := fr_ 3; have f4 := fr_ 4; clear fr_)
      go_ret2
      exact ⟨rfl, F.out⟩
    | true =>
      have e1 : readE d i = 0 := by simp [readE, hg, hT]
      have hi : 0 ≤ i ∧ i < d.safe.length := by simpa [thereD] using hT
      obtain ⟨s0, hs0⟩ : ∃ s0, d.safe[i.toNat]? = some s0 := ⟨_, List.getElem?_eq_getElem (by omega)⟩
      have e2 : readS d i = (lastOf d.row i).getD s0 := by simp [readS, e1, hs0]
      rw [e1, e2]
      have HG := Aside0.mk hg
      obtain ⟨bs, c, cur, rfl, _, hb, _, _, _, htk⟩ := HV.out.safe.open (by omega)
      have HC := Aside0.mk (show ∀ W : World, W.heap[bs]? = w.heap[bs]? → W.cell? ⟨bs, i.toNat, none⟩ = some (.string s0) from fun (W : World) hW => cell_of (xs := d.safe.map .string) (n := d.safe.length * 1) (hW.trans hb) htk (by rw [List.getElem?_map, hs0]; rfl))
      have hbl := Aside0.mk (blk_lt hb)
      clear e1 e2 hg hs0 hb htk
      have i0 := hi.1; have i1 := hi.2; clear hi
      go_enter Try.func34, Try.ntmps34
      go_upto_region 7 with (go_at_call 47; with_reducible refine (there_calls d g i S _ HV.out.dk HO.out).mono ?_; rintro e w1 ⟨rfl, hb1⟩; have v_ := HV.out.below hb1; have F_ := F.out.trans hb1; clear HV F hb1; have HV := Aside0.mk v_; have F := Aside0.mk F_; clear v_ F_ c0 c1 c2 c3 c4 f0 f1 f2 f3 f4; obtain ⟨⟨c0, c1, c2, c3, c4⟩, fr_⟩ := HV.out.cells; have f0 := fr_ 0; have f1 := fr_ 1; have f2 := fr_ 2; have f3 := fr_ 3; have f4 := fr_ 4; clear fr_)
      have hl := run_lookup_mp (P := Try.prog) (t := 94) (k := 3) (e := 9) (by kernel_rfl) (by kernel_rfl) (fun w => by kernel_rfl) HV.out.map i
      have hcell := HC.out w1 (F.out.block bs hbl.out)
      cases hq : lastOf d.row i with
      | some x =>
        rw [hq] at hl
        simp only [Option.isSome_some, Option.getD_some] at hl ⊢
        have HQ := Aside0.mk hq; clear hq
        go_wp2
        go_ret2
        exact ⟨by rw [HQ.out]; rfl, F.out⟩
      | none =>
        rw [hq] at hl
        simp only [Option.isSome_none, Option.getD_none] at hl ⊢
        have HQ := Aside0.mk hq; clear hq
        go_wp2
        go_ret2
        exact ⟨by rw [HQ.out]; rfl, F.out⟩
theorem size_calls (d : DS) (g : Nat) (S : Nat → Prop) (w : World) (h : DK w S g d) : Calls Try.prog 42 #[.pointer (some ⟨g, 0, none⟩)] w fun e w' => e = .returned (.int .i64 d.safe.length) ∧ Below w.heap.size w w' := by
  obtain ⟨sv, rv, m, hv⟩ := h
  obtain ⟨A, c, rfl, _⟩ := hv.safe.shape
  obtain ⟨A1, c1, rfl, _⟩ := hv.row.shape
  have HV := Aside0.mk hv; clear hv
  obtain ⟨⟨c0, c1, c2, c3, c4⟩, fr_⟩ := HV.out.cells; have f0 := fr_ 0; have f1 := fr_ 1; have f2 := fr_ 2; have f3 := fr_ 3; have f4 := fr_ 4; clear fr_
  go_enter Try.func42, Try.ntmps42
  go_wp2
  go_ret
  exact ⟨rfl, Below.refl _ _⟩
end Go.Proofs.Ytcelfhoomhmioaa.Dk
set_option maxRecDepth 8192
namespace Go.Proofs.Ytcelfhoomhmioaa.Dk
open Go Go.RowKit Go.ChangeMaps Go.Proofs.Ytcelfhoomhmioaa.Arr Go.Proofs.Ytcelfhoomhmioaa.Mp Go.Proofs.Ytcelfhoomhmioaa.Ow
set_option linter.unusedVariables false
set_option linter.unusedSimpArgs false
section
variable {P : Program}
theorem run_next_at (W : World) (ty : TypeId) (r m since c0 : Nat) (seen : Array Nat) (es : Array MapEntry) (clock : Nat) (hr : W.heap[r]? = some (.mapIter (some m) since seen c0)) (hb : W.heap[m]? = some (.map es clock)) (hold : ∀ x ∈ es.toList, x.born < since) (hsc : since ≤ c0) :
    ((leftOf es seen).size = 0 ∧ (Instr.next (.pointer (some ⟨r, 0, none⟩)) false ty).run P W = .ok (.tuple #[.bool false]) W) ∨
    ∃ e ∈ (leftOf es seen).toList, ∃ W1 : World, (W1 = W ∨ W1 = W.drew) ∧ (Instr.next (.pointer (some ⟨r, 0, none⟩)) false ty).run P W = .ok (.tuple #[.bool true, e.key, e.val]) (setBlock W1 r (.mapIter (some m) since (seen.push e.born) clock)) := by
  simp only [Instr.next, getObj, Sem.run_bind, Sem.run, hr, hb, Result.andThen, next_test_false seen es since c0 hold hsc, Bool.false_eq_true, if_false]
  unfold leftOf
  have hmem : ∀ x ∈ (Array.filter (fun e => !seen.contains e.born) es).toList, x.born < since := fun x hx => hold x (by simp at hx ⊢; exact hx.1)
  generalize Array.filter (fun e => !seen.contains e.born) es = L at hmem ⊢
  have e1 : L.filter (fun x => decide (x.born < since)) = L := Array.filter_eq_self.2 (fun x hx => by simpa using hmem x (by simpa using hx))
  have e2 : L.filter (fun x => decide (x.born ≥ since)) = #[] := by
    rw [Array.filter_eq_empty_iff]
    intro x hx
    have := hmem x (by simpa using hx)
    simp
    omega
  simp only [e1, e2, Array.append_empty]
  by_cases h0 : L.size = 0
  · left
    have : L = #[] := Array.eq_empty_of_size_eq_zero h0
    subst this
    refine ⟨rfl, ?_⟩
    simp [choose, Sem.run, Question.forced]
  · right
    have hne : L.isEmpty = false := by simp [Array.isEmpty, h0]
    simp only [hne, Bool.false_eq_true, if_false, Array.empty_append, Array.size_map]
    have hch : ∃ (j : Nat) (w1 : World), j < L.size ∧ (w1 = W ∨ w1 = W.drew) ∧ (choose (Question.mapNext L.size)).run P W = .ok j w1 := by
      by_cases hf : L.size ≤ 1
      · exact ⟨0, W, by omega, .inl rfl, by simp [choose, Sem.run, Question.forced, hf]⟩
      · exact ⟨_, W.drew, Nat.mod_lt _ (by omega), .inr rfl, by
          simp only [choose, Sem.run, Question.forced, decide_eq_true_eq, hf, if_false, Question.cut]
          rfl⟩
    obtain ⟨j, w1, hj, hal, hrun⟩ := hch
    refine ⟨L[j], by simp, w1, hal, ?_⟩
    have hr1 : w1.heap[r]? = some (.mapIter (some m) since seen c0) := by rcases hal with rfl | rfl <;> exact hr
    have hset : ∀ (o' : Obj), (setObj r o').run P w1 = .ok () (setBlock w1 r o') := fun o' => by
      simp only [setObj, Sem.run]
      rw [hr1]
      rfl
    simp only [hrun, Array.getElem?_map, Array.getElem?_eq_getElem hj, Option.map_some, Sem.run_bind, hset, Result.andThen]
    rfl
theorem run_entry_at (W : World) (r m since : Nat) (seen : Array Nat) (es : Array MapEntry) (clock : Nat) (e : MapEntry) (hr : W.heap[r]? = some (.mapIter (some m) since (seen.push e.born) clock)) (hb : W.heap[m]? = some (.map es clock)) (he : e ∈ es.toList) (hn : (es.toList.map (·.born)).Nodup) :
    (Instr.entry (.pointer (some ⟨r, 0, none⟩))).run P W = .ok (.tuple #[e.key, e.val]) W := by
  have hf : es.find? (·.born == e.born) = some e := by rw [← Array.find?_toList]; exact find_born e es.toList hn he
  simp only [Instr.entry, getObj, Sem.run_bind, Sem.run, hr, hb, Result.andThen, Array.back?_push, bne_self_eq_false, Bool.false_eq_true, if_false, hf]
  rfl
end
theorem iter_ne {w : World} {r g : Nat} {a : Option Nat} {b c : Nat} {s : Array Nat} {cs : Array Value} {t : TypeId} {fr : Nat × Nat} (hr : w.heap[r]? = some (.mapIter a b s c)) (hg : w.heap[g]? = some (.cells cs t fr)) : g ≠ r := by
  intro e
  subst e
  rw [hg] at hr
  cases hr
theorem iter_own {w : World} {S : Nat → Prop} {e : TypeId} {sz : Nat} {v : Value} {n : Nat} {xs : List Value} (h : Ow w S e sz v n xs) {r : Nat} {a : Option Nat} {b c : Nat} {s : Array Nat} (hr : w.heap[r]? = some (.mapIter a b s c)) : ∀ k, v.ownBlock = some k → k ≠ r := by
  intro k hk
  rcases h.own.2 with ⟨h1, _⟩ | ⟨g', cap, cur, hv, _, h2, _⟩
  · rw [h1] at hk; cases hk
  · rw [hv] at hk
    injection hk with hk
    subst hk
    exact iter_ne hr h2
theorem DV.iter {w : World} {S : Nat → Prop} {g : Nat} {d : DS} {f : Int → Option ByteArray} {sv rv : Value} {m : Nat} (h : DV w S g d f sv rv m) {r : Nat} {a : Option Nat} {b c : Nat} {s : Array Nat} (hr : w.heap[r]? = some (.mapIter a b s c)) (o : Obj) : DV (setBlock w r o) S g d f sv rv m :=
  ⟨(setBlock_other w r o (iter_ne hr h.blk)).trans h.blk, h.safe.same fun k hk => setBlock_other w r o (iter_own h.safe hr k hk), h.row.same fun k hk => setBlock_other w r o (iter_own h.row hr k hk), h.map.same (setBlock_other w r o (fun e => by
    obtain ⟨L, c', h1, _⟩ := h.map
    rw [e, hr] at h1
    cases h1)), h.sg, h.sm⟩
theorem iterSeen_of {w : World} {r : Nat} {a : Option Nat} {b c : Nat} {s : Array Nat} (hr : w.heap[r]? = some (.mapIter a b s c)) : w.iterSeen r = s := by
  unfold World.iterSeen
  rw [hr]
/-- What was handed out so far, by key. -/
def outM (L : List En) (seen : Array Nat) (i : Int) : Option ByteArray := (L.find? fun p => decide (i = p.1) && seen.contains p.2.2).map (·.2.1)
theorem out_nil (L : List En) : outM L #[] = fun _ => none := by
  funext i
  unfold outM
  rw [List.find?_eq_none.2]
  · rfl
  · intro p _
    simp
theorem out_all (L : List En) (seen : Array Nat) (h : ∀ p ∈ L, seen.contains p.2.2 = true) (i : Int) : outM L seen i = getM L i := by
  induction L with
  | nil => rfl
  | cons p r ih =>
    have h1 := h p (by simp)
    have ih := ih (fun q hq => h q (by simp [hq]))
    unfold outM at ih ⊢
    unfold getM
    rw [List.find?_cons]
    by_cases e : i = p.1
    · rw [if_pos e, decide_eq_true e, h1]; rfl
    · rw [if_neg e, decide_eq_false e]; exact ih
theorem out_push (L : List En) (c : Nat) (hi : MI L c) (seen : Array Nat) (k : Int) (v : ByteArray) (b : Nat) (hm : (k, v, b) ∈ L) (i : Int) : outM L (seen.push b) i = if i = k then some v else outM L seen i := by
  have hk := hi.keys
  have hb := hi.borns
  clear hi
  induction L with
  | nil => cases hm
  | cons p r ih =>
    have hk' := List.nodup_cons.1 hk
    have hb' := List.nodup_cons.1 hb
    unfold outM at ih ⊢
    rw [List.find?_cons, List.find?_cons, contains_push]
    rcases List.mem_cons.1 hm with rfl | hm
    · by_cases e : i = k
      · rw [if_pos e, decide_eq_true e]
        simp
      · rw [if_neg e, decide_eq_false e]
        simp only [Bool.false_and]
        congr 1
        have : ∀ (l : List En), b ∉ l.map (fun x => x.2.2) → l.find? (fun p => decide (i = p.1) && (seen.push b).contains p.2.2) = l.find? (fun p => decide (i = p.1) && seen.contains p.2.2) := by
          intro l
          induction l with
          | nil => intro _; rfl
          | cons q l ih2 =>
            intro h
            rw [List.find?_cons, List.find?_cons, contains_push]
            have hq : (q.2.2 == b) = false := by
              rw [beq_eq_false_iff_ne]
              intro e2
              exact h (by rw [List.map_cons, ← e2]; exact List.mem_cons_self)
            rw [hq, Bool.or_false, ih2 (fun h2 => h (List.mem_cons_of_mem _ h2))]
        exact this r hb'.1
    · have hne : (p.2.2 == b) = false := by
        rw [beq_eq_false_iff_ne]
        intro e2
        exact hb'.1 (List.mem_map.2 ⟨_, hm, e2.symm⟩)
      have hne2 : k ≠ p.1 := fun e2 => hk'.1 (List.mem_map.2 ⟨_, hm, e2⟩)
      rw [hne, Bool.or_false]
      by_cases e : i = p.1
      · rw [decide_eq_true e, Bool.true_and]
        have : i ≠ k := fun e3 => hne2 (e3 ▸ e)
        rw [if_neg this]
        cases hs : seen.contains p.2.2 with
        | true => rfl
        | false =>
          simp only
          have := ih hm hk'.2 hb'.2
          rw [if_neg ‹i ≠ k›] at this
          exact this
      · rw [decide_eq_false e, Bool.false_and]
        simp only
        exact ih hm hk'.2 hb'.2
theorem over_none (safe : List ByteArray) : overF (fun _ => none) safe = safe := by
  apply List.ext_getElem?
  intro i
  simp [overF]
theorem over_length (f : Int → Option ByteArray) (safe : List ByteArray) : (overF f safe).length = safe.length := by simp [overF]
theorem over_set (f f' : Int → Option ByteArray) (safe : List ByteArray) (k : Int) (v : ByteArray) (h0 : 0 ≤ k) (h : ∀ i, f' i = if i = k then some v else f i) : (overF f safe).set k.toNat v = overF f' safe := by
  apply List.ext_getElem?
  intro i
  rw [List.getElem?_set]
  simp only [overF, List.getElem?_mapIdx, List.length_mapIdx]
  by_cases e : k.toNat = i
  · subst e
    rw [if_pos rfl]
    have ek : ((k.toNat : Nat) : Int) = k := by omega
    by_cases hl : k.toNat < safe.length
    · rw [if_pos hl, List.getElem?_eq_getElem hl]
      simp [h, ek]
    · rw [if_neg hl, List.getElem?_eq_none (by omega)]
      rfl
  · rw [if_neg e]
    cases safe[i]? with
    | none => rfl
    | some s =>
      have : ¬ ((i : Int) = k) := by omega
      simp [h, this]
theorem left_seen {L : List En} {seen : Array Nat} (h : (leftOf (ents L) seen).size = 0) : ∀ p ∈ L, seen.contains p.2.2 = true := by
  intro p hp
  cases hc : seen.contains p.2.2 with
  | true => rfl
  | false =>
    have hm : ent p ∈ leftOf (ents L) seen := by
      unfold leftOf
      rw [Array.mem_filter]
      refine ⟨by simp [ents]; exact ⟨_, _, _, hp, rfl⟩, ?_⟩
      show (!seen.contains p.2.2) = true
      rw [hc]
      rfl
    have : leftOf (ents L) seen = #[] := Array.eq_empty_of_size_eq_zero h
    rw [this] at hm
    simp at hm
theorem left_mem {L : List En} {seen : Array Nat} {e : MapEntry} (h : e ∈ (leftOf (ents L) seen).toList) : ∃ p ∈ L, e = ent p := by
  have h1 := (mem_left h).1
  simp [ents] at h1
  obtain ⟨a, b, c, hm, he⟩ := h1
  exact ⟨(a, b, c), hm, he.symm⟩
end Go.Proofs.Ytcelfhoomhmioaa.Dk
set_option maxRecDepth 8192
namespace Go.Proofs.Ytcelfhoomhmioaa.Dk
open Go Go.RowKit Go.ChangeMaps Go.Proofs.Ytcelfhoomhmioaa.Arr Go.Proofs.Ytcelfhoomhmioaa.Mp Go.Proofs.Ytcelfhoomhmioaa.Ow Go.Proofs.YtcelfhoomhmioaaW.PrintWords Go.Proofs.YtcelfhoomhmioaaW.PrintLast Go.Proofs.YtcelfhoomhmioaaW.PrintMore
set_option linter.unusedVariables false
set_option linter.unusedSimpArgs false
set_option maxHeartbeats 4000000 in
theorem sync_calls (d : DS) (g : Nat) (S : Nat → Prop) (w : World) (hS : Top S w) (h : DK w S g d) (ho : OkD d) : Calls Try.prog 58 #[.pointer (some ⟨g, 0, none⟩)] w fun e w' => e = .returned (.int .i64 (syncE d)) ∧ DK w' S g (syncD d) ∧ FS S w w' := by
  obtain ⟨sv, rv, m, hv⟩ := h
  have HV := Aside0.mk hv; have HO := Aside0.mk ho; have HS := Aside0.mk hS; clear hv ho hS
  obtain ⟨⟨c0, c1, c2, c3, c4⟩, fr_⟩ := HV.out.cells; have f0 := fr_ 0; have f1 := fr_ 1; have f2 := fr_ 2; have f3 := fr_ 3; have f4 := fr_ 4; clear fr_
  rcases (show bearsE d = 4 ∨ bearsE d = 0 by unfold bearsE; split <;> simp) with hE | hE
  · have e1 : syncE d = 4 := hE
    have e2 : syncD d = bearsD d := by simp [syncD, hE]
    rw [e1, e2]
    clear e1 e2
    go_enter Try.func58, Try.ntmps58
    go_wp2_with (go_at_call 77; with_reducible refine (bears_calls d g S _ HV.out.dk HO.out).mono ?_; rintro e w2 ⟨rfl, hk2, hf2⟩; clear HV c0 c1 c2 c3 c4 f0 f1 f2 f3 f4; have F := Aside0.mk hf2; have HK := Aside0.mk hk2; clear hf2 hk2)
    go_ret
    exact ⟨rfl, HK.out, F.out⟩
  · have e1 : syncE d = 0 := hE
    have e2 : syncD d = settleD { bearsD d with safe := overF (lastOf d.row) d.safe } := by simp [syncD, hE]
    rw [e1, e2]
    clear e1 e2
    go_enter Try.func58, Try.ntmps58
    go_upto_region 6 with (go_at_call 77; with_reducible refine (bears_calls d g S _ HV.out.dk HO.out).mono ?_; rintro e w2 ⟨rfl, hk2, hf2⟩; clear HV c0 c1 c2 c3 c4 f0 f1 f2 f3 f4; have F := Aside0.mk hf2; have HK := Aside0.mk hk2; clear hf2 hk2)
    obtain ⟨sv, rv, m, hv⟩ := HK.out
    clear HK
    have hrow := bears_row d
    have hsafe := bears_safe d
    rw [hrow] at hv
    have HSF := Aside0.mk hsafe
    clear hrow hsafe
    generalize hD : bearsD d = d2 at hv HSF
    have HD := Aside0.mk hD; clear hD
    obtain ⟨L, c, hmap, hmi, hget⟩ := hv.map
    have HV := Aside0.mk hv; clear hv
    have HMI := Aside0.mk hmi; have HG := Aside0.mk hget; clear hmi hget
    have hrng := run_range_map (P := Try.prog) w2 94 3 9 m (ents L) c (by kernel_rfl) hmap
    have HM := Aside0.mk hmap; clear hmap
    obtain ⟨⟨c0, c1, c2, c3, c4⟩, fr_⟩ := HV.out.cells; have f0 := fr_ 0; have f1 := fr_ 1; have f2 := fr_ 2; have f3 := fr_ 3; have f4 := fr_ 4; clear fr_
    go_upto_region 7 with (fail)
    have hr0 := heap_alloc_new w2 (.mapIter (some m) c #[] c)
    have hm0 := blk_alloc HM.out (.mapIter (some m) c #[] c)
    have hv0 := HV.out.below ((Below.refl w2.heap.size w2).alloc (Nat.le_refl _) (.mapIter (some m) c #[] c))
    have hf0 := F.out.alloc (.mapIter (some m) c #[] c)
    have hT := Aside0.mk (HS.out.next F.out.size w2.heap.size (Nat.le_refl _))
    clear hrng c0 c1 c2 c3 c4 f0 f1 f2 f3 f4 HV F HM
    generalize w2.alloc (.mapIter (some m) c #[] c) = W at *
    generalize w2.heap.size = r at *
    have HR0 := Aside0.mk hr0; have HM0 := Aside0.mk hm0; have HV0 := Aside0.mk hv0; have HF0 := Aside0.mk hf0
    clear hr0 hm0 hv0 hf0
    go_loopw [4, 5] (fun _ _ wr => ∃ seen : Array Nat, Aside0 (wr.heap[r]? = some (.mapIter (some m) c seen c)) ∧ Aside0 (wr.heap[m]? = some (.map (ents L) c)) ∧ Aside0 (DV wr S g { d2 with safe := overF (outM L seen) d.safe } (lastOf d.row) sv rv m) ∧ Aside0 (FS S w wr)) (fun _ _ wr => (leftOf (ents L) (wr.iterSeen r)).size)
    case atStart => exact ⟨#[], HR0, HM0, ⟨by rw [out_nil, over_none, ← HSF.out]; exact HV0.out⟩, HF0⟩
    case round =>
      clear HR0 HM0 HV0 HF0
      obtain ⟨seen, HR, HM, HV, F⟩ := hrel
      have hold : ∀ x ∈ (ents L).toList, x.born < c := by
        intro x hx
        simp [ents] at hx
        obtain ⟨a, b, q, hm, rfl⟩ := hx
        exact HMI.out.below _ hm
      rcases run_next_at (P := Try.prog) wr 0 r m c c seen (ents L) c HR.out HM.out hold (Nat.le_refl _) with ⟨h0, hrun⟩ | ⟨e, he, W1, hW1, hrun⟩
      · have hall := left_seen h0
        have hfun : outM L seen = lastOf d.row := by
          funext i
          rw [out_all L seen hall, HG.out]
        have HFUN := Aside0.mk hfun
        clear h0 hall hfun hold
        go_wp2_with (go_at_call 78; with_reducible refine (settle_calls _ g S _ sv rv m _ HV.out).mono ?_; rintro e w5 ⟨rfl, hk5, hf5⟩; have HK := Aside0.mk hk5; have F5 := Aside0.mk (F.out.trans hf5); clear hk5 hf5)
        go_ret
        refine ⟨rfl, ?_, F5.out⟩
        have q := HK.out
        rw [HFUN.out] at q
        rw [HD.out]
        exact q
      · obtain ⟨p, hp, rfl⟩ := left_mem he
        have HSN := Aside0.mk (iterSeen_of HR.out)
        have hsh := left_shrinks (ents L) seen (ent p) he
        obtain ⟨k, v, b⟩ := p
        have hkm : (k, v) ∈ d.row := last_mem (by rw [← HG.out, get_of_mem (c := 0) HMI.out.keys hp])
        have hrange := HO.out.2.2.2.2 _ hkm
        have hk0 : 0 ≤ k := hrange.1
        have hk1 : k < d.safe.length := hrange.2
        have hin : ent (k, v, b) ∈ (ents L).toList := (mem_left he).1
        have hW : W1.heap = wr.heap ∧ FS S w W1 ∧ DV W1 S g { safe := overF (outM L seen) d.safe, row := d2.row, gone := d2.gone, fuse := d2.fuse } (lastOf d.row) sv rv m := by
          rcases hW1 with rfl | rfl
          · exact ⟨rfl, F.out, HV.out⟩
          · exact ⟨rfl, F.out.drew, HV.out.drew⟩
        obtain ⟨hWh, hWF, hWV⟩ := hW
        have hr1 : W1.heap[r]? = some (.mapIter (some m) c seen c) := by rw [hWh]; exact HR.out
        have hm1 : W1.heap[m]? = some (.map (ents L) c) := by rw [hWh]; exact HM.out
        have hrl : r < W1.heap.size := by
          rcases Nat.lt_or_ge r W1.heap.size with h1 | h1
          · exact h1
          · simp [Array.getElem?_eq_none h1] at hr1
        have hmr : m ≠ r := by
          intro e
          rw [e, hr1] at hm1
          cases hm1
        change (Instr.next _ false 0).run Try.prog wr = .ok (.tuple #[.bool true, .int .i64 k, .string v]) (setBlock W1 r (.mapIter (some m) c (seen.push b) c)) at hrun
        have hv2 := hWV.iter hr1 (.mapIter (some m) c (seen.push b) c)
        have hr2 := setBlock_at W1 r (.mapIter (some m) c (seen.push b) c) hrl
        have hm2 := (setBlock_other W1 r (.mapIter (some m) c (seen.push b) c) hmr).trans hm1
        have hf2 := hWF.setBlock (.inl hT.out) (.mapIter (some m) c (seen.push b) c)
        obtain ⟨bs, cc, cur, hsv, _, hbs, _, _, _, htk⟩ := hv2.safe.open (by simp only [over_length]; omega)
        have hlen : (overF (outM L seen) d.safe).length = d.safe.length := over_length _ _
        simp only [hlen] at hsv
        subst hsv
        generalize hW2 : setBlock W1 r (.mapIter (some m) c (seen.push b) c) = W2 at *
        clear hW2 hWh hWF hWV hr1 hm1 hrl hW1 HR HM HV F
        have hent := run_entry_at (P := Try.prog) W2 r m c seen (ents L) c (ent (k, v, b)) hr2 hm2 hin (by have := HMI.out.borns; simp only [ents, List.map_map]; exact this)
        change (Instr.entry _).run Try.prog W2 = .ok (.tuple #[.int .i64 k, .string v]) W2 at hent
        have hv3 := hv2.set_safe k.toNat (by simp only [over_length]; omega) v
        have hr3 := (Below.heap_setCell W2 ⟨bs, k.toNat, none⟩ (.string v) r (iter_ne hr2 hbs).symm).trans hr2
        have hm3 := (Below.heap_setCell W2 ⟨bs, k.toNat, none⟩ (.string v) m (fun e => by rw [e] at hm2; rw [hm2] at hbs; cases hbs)).trans hm2
        have hf3 := hf2.setCell (p := ⟨bs, k.toNat, none⟩) (.inl (hv2.safe.mem bs rfl)) (.string v)
        have hsafe : (overF (outM L seen) d.safe).set k.toNat v = overF (outM L (seen.push b)) d.safe := over_set _ _ _ k v hk0 (fun i => out_push L c HMI.out seen k v b hp i)
        simp only [hsafe] at hv3
        have fz : W2.frozen? ⟨bs, k.toNat, none⟩ = false := blk_frozen hbs _
        have cz : ∃ u, W2.cell? ⟨bs, k.toNat, none⟩ = some u := by
          have hx : ((overF (outM L seen) d.safe).map Value.string)[k.toNat]? = some (.string ((overF (outM L seen) d.safe)[k.toNat]'(by rw [over_length]; omega))) := by rw [List.getElem?_map, List.getElem?_eq_getElem]; rfl
          exact ⟨_, cell_of hbs htk hx⟩
        obtain ⟨u, cz⟩ := cz
        have HV2 := Aside0.mk hv2; have HR3 := Aside0.mk hr3; have HM3 := Aside0.mk hm3; have HF3 := Aside0.mk hf3; have HV3 := Aside0.mk hv3; have HSH := Aside0.mk hsh
        clear hsh
        clear hold hrange hkm hin hv2 hr2 hm2 hf2 hbs hlen hv3 hr3 hm3 hf3 hsafe he hp htk
        obtain ⟨⟨c0, c1, c2, c3, c4⟩, fr_⟩ := HV2.out.cells; clear fr_
        go_wp2
        go_roundw
        case measure =>
          rw [iterSeen_of HR3.out, HSN.out]
          exact HSH.out
        case rel => exact ⟨seen.push b, HR3, HM3, HV3, HF3⟩
end Go.Proofs.Ytcelfhoomhmioaa.Dk
set_option maxRecDepth 8192
namespace Go.Proofs.Ytcelfhoomhmioaa.Dk
open Go Go.RowKit Go.Proofs.YtcelfhoomhmioaaW.PrintWords Go.Proofs.YtcelfhoomhmioaaW.PrintLast Go.Proofs.YtcelfhoomhmioaaW.PrintMore
set_option linter.unusedVariables false
set_option linter.unusedSimpArgs false
def bits_Mul64.f (a0 : Int) (a1 : Int) : Option (Int × Int) := some (IntKind.u64.wrap ((IntKind.u64.wrap ((IntKind.u64.wrap ((a0 / 4294967296) * (a1 / 4294967296))) + ((IntKind.u64.wrap ((IntKind.u64.wrap ((a0 / 4294967296) * (Go.bits .and .u64 a1 4294967295))) + ((IntKind.u64.wrap ((Go.bits .and .u64 a0 4294967295) * (Go.bits .and .u64 a1 4294967295))) / 4294967296))) / 4294967296))) + ((IntKind.u64.wrap ((Go.bits .and .u64 (IntKind.u64.wrap ((IntKind.u64.wrap ((a0 / 4294967296) * (Go.bits .and .u64 a1 4294967295))) + ((IntKind.u64.wrap ((Go.bits .and .u64 a0 4294967295) * (Go.bits .and .u64 a1 4294967295))) / 4294967296))) 4294967295) + (IntKind.u64.wrap ((Go.bits .and .u64 a0 4294967295) * (a1 / 4294967296))))) / 4294967296)), IntKind.u64.wrap (a0 * a1))
set_option maxHeartbeats 8000000 in
set_option maxRecDepth 100000 in
theorem bits_Mul64.calls (a0 : Int) (a1 : Int) (r1 : Int) (r2 : Int) (w : World) (h : bits_Mul64.f a0 a1 = some (r1, r2)) :
    Calls Try.prog 74 #[.int .u64 a0, .int .u64 a1] w fun e w' => e = .returned (.tuple #[.int .u64 r1, .int .u64 r2]) ∧ Drawn0 w w' := by
  have H : (some (IntKind.u64.wrap ((IntKind.u64.wrap ((IntKind.u64.wrap ((a0 / 4294967296) * (a1 / 4294967296))) + ((IntKind.u64.wrap ((IntKind.u64.wrap ((a0 / 4294967296) * (Go.bits .and .u64 a1 4294967295))) + ((IntKind.u64.wrap ((Go.bits .and .u64 a0 4294967295) * (Go.bits .and .u64 a1 4294967295))) / 4294967296))) / 4294967296))) + ((IntKind.u64.wrap ((Go.bits .and .u64 (IntKind.u64.wrap ((IntKind.u64.wrap ((a0 / 4294967296) * (Go.bits .and .u64 a1 4294967295))) + ((IntKind.u64.wrap ((Go.bits .and .u64 a0 4294967295) * (Go.bits .and .u64 a1 4294967295))) / 4294967296))) 4294967295) + (IntKind.u64.wrap ((Go.bits .and .u64 a0 4294967295) * (a1 / 4294967296))))) / 4294967296)), IntKind.u64.wrap (a0 * a1))) = some (r1, r2) := h
  clear h
  simp only [Option.some.injEq, Prod.mk.injEq] at H
  obtain ⟨rfl, rfl⟩ := H
  go_enter Try.func74, Try.ntmps74
  go_wp2
  go_ret2
  exact ⟨by first | rfl | (simp; done) | (simp [*]; done), by repeat (first | exact Drawn0.refl _ | apply Drawn0.step)⟩
def bits_Mul.f (a0 : Int) (a1 : Int) : Option (Int × Int) := (bits_Mul64.f a0 a1).bind fun bt101 => (some (bt101.1, bt101.2))
set_option maxHeartbeats 8000000 in
set_option maxRecDepth 100000 in
theorem bits_Mul.calls (a0 : Int) (a1 : Int) (r1 : Int) (r2 : Int) (w : World) (h : bits_Mul.f a0 a1 = some (r1, r2)) :
    Calls Try.prog 54 #[.int .u64 a0, .int .u64 a1] w fun e w' => e = .returned (.tuple #[.int .u64 r1, .int .u64 r2]) ∧ Drawn0 w w' := by
  have H : ((bits_Mul64.f a0 a1).bind fun bt101 => (some (bt101.1, bt101.2))) = some (r1, r2) := h
  clear h
  replace H := Option.bind_eq_some_iff.mp H
  obtain ⟨⟨t101, t102⟩, A30, H⟩ := H
  replace H : (some (t101, t102)) = some (r1, r2) := H
  have A3 := Aside0.mk A30
  clear A30
  simp only [Option.some.injEq, Prod.mk.injEq] at H
  obtain ⟨rfl, rfl⟩ := H
  go_enter Try.func54, Try.ntmps54
  go_wp2_with (first | ((with_reducible refine gate_callee (f := 74) rfl ?_); refine goesL_ (some 25) rfl rfl Try.func74 (by kernel_rfl) rfl #[.int .u64 a0, .int .u64 a1] rfl (by (try simp only [List.map_toArray, List.map_cons, List.map_nil]); first | done | rfl | (simp only [List.length_drop, List.length_take]; rfl)) ?_; (with_reducible refine (bits_Mul64.calls a0 a1 t101 t102 _ A3.out).mono ?_); rintro e w' ⟨rfl, ⟨nd, rfl⟩⟩; refine ⟨_, rfl, ?_⟩))
  go_ret2
  exact ⟨by first | rfl | (simp; done) | (simp [*]; done), by repeat (first | exact Drawn0.refl _ | apply Drawn0.step)⟩
theorem mul_one : ∀ n : Fin 513, bits_Mul.f 1 (n.val : Int) = some (0, (n.val : Int)) := by decide +kernel
theorem mul_calls (n : Nat) (h : n ≤ 512) (w : World) : Calls Try.prog 54 #[.int .u64 1, .int .u64 (n : Int)] w fun e w' => e = .returned (.tuple #[.int .u64 0, .int .u64 (n : Int)]) ∧ Below w.heap.size w w' :=
  (bits_Mul.calls 1 (n : Int) 0 (n : Int) w (mul_one ⟨n, by omega⟩)).mono fun e w' ⟨h1, h2⟩ => ⟨h1, h2.below⟩
end Go.Proofs.Ytcelfhoomhmioaa.Dk
set_option maxRecDepth 8192
namespace Go.Proofs.Ytcelfhoomhmioaa.Dk
open Go Go.RowKit Go.ChangeMaps Go.Proofs.Ytcelfhoomhmioaa.Arr Go.Proofs.Ytcelfhoomhmioaa.Mp Go.Proofs.Ytcelfhoomhmioaa.Ow Go.Proofs.YtcelfhoomhmioaaW.PrintWords Go.Proofs.YtcelfhoomhmioaaW.PrintLast Go.Proofs.YtcelfhoomhmioaaW.PrintMore
set_option linter.unusedVariables false
set_option linter.unusedSimpArgs false
abbrev TB : TypeId := 5
theorem infoS : (Try.prog.info? TS).map (fun i => (i.zero, i.size, i.bytes)) = some (some (.string ⟨#[]⟩), 1, 16) := by kernel_rfl
def repS (n : Nat) (s : ByteArray) : List Value := List.replicate n (Value.string s)
theorem z128 (w : World) : (zeroValue 107).run Try.prog w = .ok (.agg (row (noughts 128))) w := by rw [row_noughts]; kernel_rfl
attribute [local go_sem] z128
theorem make_strings (W : World) (n : Nat) (hn : n ≤ 65536) : (Instr.makeSlice 99 (.int .i64 (n : Int)) (.int .i64 (n : Int))).run Try.prog W = .ok (.slice (some ⟨W.heap.size, 0, none⟩) n n) (W.alloc (.cells (repS n ⟨#[]⟩).toArray TS)) := by
  obtain ⟨i0, hi, h2⟩ := Option.map_eq_some_iff.1 infoS
  have hz : i0.zero = some (.string ⟨#[]⟩) := congrArg Prod.fst h2
  have hs : i0.size = 1 := congrArg (fun p => p.2.1) h2
  have hb : i0.bytes = 16 := congrArg (fun p => p.2.2) h2
  have h := run_make (P := Try.prog) W 99 TS i0 _ (by kernel_rfl) hi hz .i64 .i64 (n : Int) (n : Int) (by omega) (by omega) (by rw [hb]; omega) (by omega)
  rw [hs, Int.toNat_natCast, Nat.mul_one] at h
  rw [h, repS, ← made_one]
  rfl
theorem zero_calls (w : World) : Calls Try.prog 35 #[] w fun e w' => e = .returned (.string (noughts 128)) ∧ Below w.heap.size w w' := by
  have hb := heap_alloc_new w (.cells (row (noughts 128)) 107)
  have HB := Aside0.mk (((Below.refl w.heap.size w)).alloc (Nat.le_refl _) (.cells (row (noughts 128)) 107))
  have hconv := conv_whole (P := Try.prog) hb 92 TB TS (by kernel_rfl) (by kernel_rfl) (by kernel_rfl) 128 128 rfl
  clear hb
  have hzc : Try.zeroCells107 = row (noughts 128) := by rw [row_noughts]; kernel_rfl
  go_enter Try.func35, Try.ntmps35
  go_wp2
  go_ret
  exact ⟨rfl, HB.out⟩
def repA (n k : Nat) (z : ByteArray) : Array Value := (repS k z ++ repS (n - k) ⟨#[]⟩).toArray
theorem rep_len (n : Nat) (z : ByteArray) : (repS n z).length = n := by simp [repS]
theorem repA_size (n k : Nat) (z : ByteArray) (h : k ≤ n) : (repA n k z).size = n := by simp [repA, rep_len]; omega
theorem repA_zero (n : Nat) (z : ByteArray) : repA n 0 z = (repS n ⟨#[]⟩).toArray := by simp [repA, repS]
theorem repA_all (n : Nat) (z : ByteArray) : repA n n z = (repS n z).toArray := by simp [repA, repS]
theorem repA_get (n k : Nat) (z : ByteArray) (j : Nat) (h : j < k) : (repA n k z)[j]? = some (.string z) := by
  simp only [repA, List.getElem?_toArray, List.getElem?_append, rep_len, repS, List.length_replicate, if_pos h, List.getElem?_replicate]
theorem repA_copy (n k c : Nat) (z : ByteArray) (h : k + c ≤ n) : ((repA n k z).toList.take k ++ repS c z ++ (repA n k z).toList.drop (k + c)).toArray = repA n (k + c) z := by
  unfold repA
  congr 1
  simp only [repS]
  rw [List.take_append_of_le_length (by simp), List.take_of_length_le (by simp), List.drop_append, List.drop_of_length_le (by simp), List.length_replicate, List.nil_append, List.replicate_append_replicate]
  rw [show k + c - k = c by omega, List.drop_replicate, show n - k - c = n - (k + c) by omega]
theorem rep_copy (W : World) (n k g b o' : Nat) (cap sl sc : Nat) (z : ByteArray) (hg : W.heap[g]? = some (.cells (repA n k z) TS (0, 0))) (c : Nat) (hc : k + c ≤ n) (hm : c = Nat.min sl (n - k)) (hs : ∀ j, j < c → W.cell? ⟨b, o' + j, none⟩ = some (.string z)) (ty : TypeId) :
    (Builtin.copy_ #[99, 99] ty #[.slice (some ⟨g, k, none⟩) (n - k) cap, .slice (some ⟨b, o', none⟩) sl sc]).run Try.prog W = .ok (goInt c) (W.setRow g (repA n (k + c) z)) := by
  have h := run_copy_row (P := Try.prog) W 99 99 ty TS g k (n - k) cap ⟨b, o', none⟩ sl sc _ TS (repS c z) (by kernel_rfl) (by kernel_rfl) hg (by rw [rep_len]; exact hm) (fun j v hj => by
    have hj2 : j < c := by
      rcases Nat.lt_or_ge j c with h | h
      · exact h
      · rw [List.getElem?_eq_none (by rw [rep_len]; exact h)] at hj; cases hj
    have : v = .string z := by simp [repS, List.getElem?_replicate, hj2] at hj; exact hj.symm
    rw [this, Addr.add_lit]; exact hs j hj2) (by rw [rep_len, repA_size n k z (by omega)]; exact hc) (fun v hv => by rw [List.eq_of_mem_replicate hv]; rfl)
  rw [rep_len, repA_copy n k c z hc] at h
  exact h
set_option maxHeartbeats 4000000 in
set_option maxRecDepth 20000 in
theorem repeat_calls (z : ByteArray) (n : Nat) (h1 : 1 ≤ n) (h2 : n ≤ 512) (b : Nat) (w : World) (hb : w.heap[b]? = some (.cells #[.string z] TS (0, 0))) : Calls Try.prog 41 #[.slice (some ⟨b, 0, none⟩) 1 1, .int .i64 (n : Int)] w fun e w' => ∃ g, w.heap.size ≤ g ∧ e = .returned (.slice (some ⟨g, 0, none⟩) n n) ∧ w'.heap[g]? = some (.cells (repS n z).toArray TS (0, 0)) ∧ Below w.heap.size w w' := by
  have HB := Aside0.mk (Below.refl w.heap.size w)
  have BB := Aside0.mk hb; have H1 := Aside0.mk h1; have H2 := Aside0.mk h2; clear hb h1
  have hu : IntKind.u64.wrap (n : Int) = (n : Int) := by rw [IntKind.wrap_u64]; omega
  have t2 : decide ((9223372036854775807 : Int) < (n : Int)) = false := decide_eq_false (by omega)
  have hw : wrap64 (n : Int) = (n : Int) := by unfold wrap64; omega
  clear h2
  go_enter Try.func41, Try.ntmps41
  go_upto_region 6 with (go_at_call 54; with_reducible refine (mul_calls n H2.out _).mono ?_; rintro e w1 ⟨rfl, hb1⟩; have n_ := Aside0.mk (Arr.below_trans HB.out hb1); clear HB; have HB := n_; clear n_ hb1)
  have hb1 : w1.heap[b]? = some (.cells #[.string z] TS (0, 0)) := (HB.out.block b (blk_lt BB.out)).trans BB.out
  clear BB
  have hm0 := make_strings w1 n (by have := H2.out; omega)
  conv at hm0 => lhs; rw [← hw]
  have HM := Aside0.mk hm0; clear hm0
  go_upto_region 7 with ((with_reducible refine gate_dst (N := 30) rfl ?_); refine ev_make (.tmp 29) (.tmp 29) 99 rfl rfl _ _ rfl rfl HM.out ?_)
  have hg0 : (w1.alloc (.cells (repS n ⟨#[]⟩).toArray TS)).heap[w1.heap.size]? = some (.cells (repA n 0 z) TS (0, 0)) := by rw [repA_zero]; exact heap_alloc_new w1 _
  have hb2 := blk_alloc hb1 (.cells (repS n ⟨#[]⟩).toArray TS)
  have hB2 := Arr.below_trans HB.out ((Below.refl _ _).alloc (Nat.le_refl _) (.cells (repS n ⟨#[]⟩).toArray TS))
  have hge_ := Aside0.mk HB.out.size
  clear HB HM hb1
  generalize w1.alloc (.cells (repS n ⟨#[]⟩).toArray TS) = W at *
  generalize w1.heap.size = g at *
  have HG := Aside0.mk hg0; have HBB := Aside0.mk hb2; have HB := Aside0.mk hB2
  clear hg0 hb2 hB2
  have hcp := rep_copy W n 0 g b 0 n 1 1 z HG.out 1 (by have := H1.out; omega) (by rw [Nat.sub_zero]; exact (Nat.min_eq_left H1.out).symm) (fun j hj => by have e : j = 0 := (by omega); subst e; exact blk_cell HBB.out 0) 3
  rw [Nat.sub_zero, Nat.zero_add] at hcp
  go_upto_region 8 with (fail)
  have hs := set_row HG.out (repA n 1 z)
  have hB3 := below_setRow HB.out hge_.out (repA n 1 z)
  clear HG HB hcp HBB
  generalize W.setRow g (repA n 1 z) = W2 at *
  have HG := Aside0.mk hs; have HB := Aside0.mk hB3
  clear hs hB3
  go_loopw [8] (fun i wr => ∃ k : Nat, i = .int .i64 k ∧ Aside0 (1 ≤ k ∧ k ≤ n) ∧ Aside0 (wr.heap[g]? = some (.cells (repA n k z) TS (0, 0))) ∧ Aside0 (Below w.heap.size w wr)) (fun i _ => n - (intOf i).toNat)
  case atStart => exact ⟨1, rfl, ⟨⟨by omega, H1.out⟩⟩, HG, HB⟩
  case round =>
    clear HG HB
    obtain ⟨k, rfl, K, HG, HB⟩ := hrel
    by_cases hlt : (k : Int) < (n : Int)
    · have hge : (0 : Int) ≤ (k : Int) := by omega
      have hkn : (k : Int) ≤ (n : Int) := by omega
      obtain ⟨c, hc⟩ : ∃ c, c = Nat.min k (n - k) := ⟨_, rfl⟩
      have hc0 : 1 ≤ c ∧ k + c ≤ n := by have := K.out; rw [hc]; simp only [Nat.min_def]; split <;> omega
      have hcp := rep_copy wr.drew n k g g 0 (n - k) k n z HG.out c hc0.2 hc (fun j hj => by
        rw [Nat.zero_add]
        exact (blk_cell HG.out j).trans (repA_get n k z j (by have := K.out; rw [hc] at hj; have := Nat.min_le_left k (n - k); exact Nat.lt_of_lt_of_le hj this))) 3
      have hwk : wrap64 ((k : Int) + (c : Int)) = ((k + c : Nat) : Int) := by have := H2.out; have := hc0.2; unfold wrap64; omega
      have hs := set_row (w := wr.drew) HG.out (repA n (k + c) z)
      have hB3 := below_setRow HB.out.drew hge_.out (repA n (k + c) z)
      have HG1 := Aside0.mk hs; have HB1 := Aside0.mk hB3; have HC0 := Aside0.mk hc0; have HC := Aside0.mk hc
      clear hs hB3 hc0 hc HG HB
      go_wp2
      go_region
      simp only [Exit.inBlock, Exit.then, hwk]
      go_roundw
      case measure =>
        show n - (intOf (.int .i64 ((k + c : Nat) : Int))).toNat < n - (intOf (.int .i64 (k : Int))).toNat
        simp only [intOf]
        have := HC0.out
        omega
      case rel => exact ⟨_, _, _, _, _, _, _, _, _, _, _, _, _, _, ⟨k + c, rfl, ⟨by have := HC0.out; have := K.out; omega⟩, HG1, HB1⟩, rfl⟩
    · have hk : k = n := by have := K.out; omega
      subst hk
      go_wp2
      go_ret
      exact ⟨g, hge_.out, rfl, by have := HG.out; rw [repA_all] at this; exact this, HB.out⟩
def newD (n : Nat) : DS := ⟨List.replicate n (noughts 128), [], false, -1⟩
set_option maxHeartbeats 4000000 in
theorem new_calls (n : Nat) (h1 : 1 ≤ n) (h2 : n ≤ 512) (w : World) : Calls Try.prog 25 #[.int .i64 (n : Int)] w fun e w' => ∃ g, w.heap.size ≤ g ∧ e = .returned (.tuple #[.pointer (some ⟨g, 0, none⟩), .int .i64 0]) ∧ DK w' (fun k => w.heap.size ≤ k) g (newD n) ∧ Below w.heap.size w w' := by
  have HB := Aside0.mk (Below.refl w.heap.size w)
  have t1 : decide ((n : Int) < 1) = false := decide_eq_false (by omega)
  have t2 : decide (512 < (n : Int)) = false := decide_eq_false (by omega)
  have H1 := Aside0.mk h1; have H2 := Aside0.mk h2; clear h1 h2
  have hmm : ∀ W : World, (Instr.makeMap 94 none).run Try.prog W = .ok (.map (some W.heap.size)) (W.alloc (.map #[] 0)) := fun W => rfl
  go_enter Try.func25, Try.ntmps25
  go_wp2_with (first | (go_at_call 35; with_reducible refine (zero_calls _).mono ?_; rintro e w1 ⟨rfl, hb1⟩; have n_ := Aside0.mk (Arr.below_trans HB.out hb1); clear HB; have HB := n_; clear n_ hb1) | (go_at_call 41; with_reducible refine (repeat_calls (noughts 128) n H1.out H2.out _ _ (heap_alloc_new _ _)).mono ?_; rintro e w2 ⟨gs, hge, rfl, hgs, hb2⟩; have n_ := Aside0.mk (Arr.below_trans (HB.out.alloc HB.out.size (.cells #[.string (noughts 128)] TS)) hb2); have l_ := Aside0.mk (show w.heap.size ≤ gs from Nat.le_trans HB.out.size (Nat.le_trans (by simp) hge)); have GS := Aside0.mk hgs; clear HB hb2 hge hgs; have HB := n_; clear n_))
  go_ret2
  have hb := HB.out
  have q0 := heap_alloc_new (w2.alloc (.map #[] 0)) (.cells #[.slice (some ⟨gs, 0, none⟩) n n, .slice none 0 0, .map (some w2.heap.size), .bool false, .int .i64 (-1)] TD)
  have hlt := blk_lt GS.out
  have q1 : ((w2.alloc (.map #[] 0)).alloc (.cells #[.slice (some ⟨gs, 0, none⟩) n n, .slice none 0 0, .map (some w2.heap.size), .bool false, .int .i64 (-1)] TD)).heap[gs]? = some (.cells (repS n (noughts 128)).toArray TS (0, 0)) := blk_alloc (blk_alloc GS.out _) _
  have q2 : MP ((w2.alloc (.map #[] 0)).alloc (.cells #[.slice (some ⟨gs, 0, none⟩) n n, .slice none 0 0, .map (some w2.heap.size), .bool false, .int .i64 (-1)] TD)) w2.heap.size (fun _ => none) := (MP.made w2).same (by rw [heap_alloc_old]; simp)
  have hsz := hb.size
  refine ⟨w2.heap.size + 1, by omega, by simp, ⟨.slice (some ⟨gs, 0, none⟩) n n, .slice none 0 0, w2.heap.size, ⟨?_, ?_, Ow.nil _ _ _ _, q2, ?_, ?_⟩⟩, (hb.alloc hsz _).alloc (by simp; omega) _⟩
  · rw [World.size_alloc] at q0
    exact q0
  · have e1 : (newD n).safe.length = n := by simp [newD]
    rw [e1]
    refine ⟨⟨by simp [newD], .inr ⟨gs, n, _, ?_, Nat.zero_le _, q1, Nat.le_refl _, by have := H2.out; simp only [maxLen]; omega, by simp [rep_len], ?_⟩⟩, fun k hk => ?_⟩
    · rfl
    · simp [newD, repS]
    · injection hk with hk
      subst hk
      exact l_.out
  · show w.heap.size ≤ w2.heap.size + 1
    omega
  · exact hsz
end Go.Proofs.Ytcelfhoomhmioaa.Dk
set_option maxRecDepth 8192
namespace Go.Proofs.Ytcelfhoomhmioaa.Dk
open Go Go.RowKit Go.ChangeMaps Go.Proofs.Ytcelfhoomhmioaa.Arr Go.Proofs.Ytcelfhoomhmioaa.Mp Go.Proofs.Ytcelfhoomhmioaa.Ow Go.Proofs.YtcelfhoomhmioaaW.PrintWords Go.Proofs.YtcelfhoomhmioaaW.PrintLast Go.Proofs.YtcelfhoomhmioaaW.PrintMore
set_option linter.unusedVariables false
set_option linter.unusedSimpArgs false
/-- The picks: n numbers, in a block that is none of the disk's. -/
def Pk (w : World) (S : Nat → Prop) (A : Option Addr) (n : Nat) (p : Nat → Nat) : Prop := 0 < n → ∃ ad, A = some ad ∧ (∀ j, j < n → w.cell? (ad.add j) = some (.int .u8 (p j : Int))) ∧ (¬ S ad.block ∨ ∃ cs fr, w.heap[ad.block]? = some (.cells cs TB fr))
theorem add_block (a : Addr) (j : Nat) : (a.add j).block = a.block := by
  unfold Addr.add
  split <;> rfl
theorem Pk.lt {w : World} {n : Nat} {p : Nat → Nat} {ad : Addr} (h0 : 0 < n) (h : ∀ j, j < n → w.cell? (ad.add j) = some (.int .u8 (p j : Int))) : ad.block < w.heap.size := by
  have h1 := h 0 h0
  rcases Nat.lt_or_ge ad.block w.heap.size with h2 | h2
  · exact h2
  · simp only [World.cell?, add_block, Array.getElem?_eq_none h2] at h1
    cases h1
end Go.Proofs.Ytcelfhoomhmioaa.Dk
set_option maxRecDepth 8192
namespace Go.Proofs.Ytcelfhoomhmioaa.Dk
open Go Go.RowKit Go.ChangeMaps Go.Proofs.Ytcelfhoomhmioaa.Arr Go.Proofs.Ytcelfhoomhmioaa.Mp Go.Proofs.Ytcelfhoomhmioaa.Ow Go.Proofs.YtcelfhoomhmioaaW.PrintWords Go.Proofs.YtcelfhoomhmioaaW.PrintLast Go.Proofs.YtcelfhoomhmioaaW.PrintMore
set_option linter.unusedVariables false
set_option linter.unusedSimpArgs false
def OkN (n : Nat) (d : DS) : Prop := OkD d ∧ d.row.length ≤ n
theorem ok_new (n : Nat) (h : n ≤ 512) : OkN 0 (newD n) := ⟨⟨by simp [newD], by simp [newD], by simp [newD], by simp [newD]; omega, by simp [newD]⟩, by simp [newD]⟩
theorem ok_bears {n : Nat} {d : DS} (h : OkN n d) : OkN n (bearsD d) := by
  obtain ⟨⟨h1, h2, h3, h4, h5⟩, h6⟩ := h
  unfold bearsD
  split
  · exact ⟨⟨h1, h2, h3, h4, h5⟩, h6⟩
  · split
    · exact ⟨⟨h1, h2, h3, h4, h5⟩, h6⟩
    · split
      · exact ⟨⟨h1, by simp only; omega, by simp only; omega, h4, h5⟩, h6⟩
      · exact ⟨⟨h1, h2, h3, h4, h5⟩, h6⟩
theorem OkN.ok {n : Nat} {d : DS} (h : OkN n d) : OkD d := h.1
theorem OkN.mono {n n' : Nat} {d : DS} (h : OkN n d) (hn : n ≤ n') : OkN n' d := ⟨h.1, Nat.le_trans h.2 hn⟩
theorem ok_write {n : Nat} {d : DS} {i : Int} {s : ByteArray} (h : OkN n d) (hn : n < 1000000) : OkN (n + 1) (writeD d i s) := by
  unfold writeD
  split
  · exact h.mono (by omega)
  · split
    · exact h.mono (by omega)
    · split
      · exact (ok_bears h).mono (by omega)
      · rename_i ht _ _
        have hb := ok_bears h
        have hs := bears_safe d
        have hr := bears_row d
        have hi : 0 ≤ i ∧ i < d.safe.length := by simpa [thereD] using ht
        obtain ⟨⟨h1, h2, h3, h4, h5⟩, h6⟩ := hb
        refine ⟨⟨by simp [pushD]; omega, h2, h3, h4, ?_⟩, by simp [pushD]; omega⟩
        intro p hp
        rcases List.mem_append.1 hp with hp | hp
        · exact h5 p hp
        · simp at hp
          subst hp
          show 0 ≤ i ∧ i < (bearsD d).safe.length
          rw [hs]
          exact hi
theorem ok_sync {n : Nat} {d : DS} (h : OkN n d) : OkN n (syncD d) := by
  unfold syncD
  split
  · exact ok_bears h
  · obtain ⟨⟨h1, h2, h3, h4, h5⟩, h6⟩ := ok_bears h
    have hl := h.1.2.2.2.1
    exact ⟨⟨by simp [settleD], h2, h3, by simpa [settleD, over_length] using hl, by simp [settleD]⟩, by simp [settleD]⟩
theorem FS.up {B : Nat} {w w' : World} (h : FS (fun k => B ≤ k) w w') (hB : B ≤ w.heap.size) : Below B w w' := ⟨h.os, h.tape, h.output, h.size, fun k hk => h.block k (by omega) (by omega)⟩
end Go.Proofs.Ytcelfhoomhmioaa.Dk
set_option maxRecDepth 8192
namespace Go.Proofs.Ytcelfhoomhmioaa.Page
open Go Go.RowKit Go.Proofs.Ytcelfhoomhmioaa.Arr Go.Proofs.YtcelfhoomhmioaaW.PrintWords Go.Proofs.YtcelfhoomhmioaaW.PrintMore
attribute [local go_sem] max2_int min2_int max_two min_two
set_option maxRecDepth 100000 in
theorem z220 (w : World) : (zeroValue 108).run Try.prog w = .ok (.agg (row (noughts 220))) w := by rw [row_noughts]; kernel_rfl
theorem fld_page_0 (a b : Value) (w : World) : (Instr.field 35 (.agg #[a, b]) 0).run Try.prog w = .ok a w := by kernel_rfl
theorem fld_page_1 (a b : Value) (w : World) : (Instr.field 35 (.agg #[a, b]) 1).run Try.prog w = .ok b w := by kernel_rfl
def Post (v : Value) (w : World) (e : Ending) (w' : World) : Prop := e = .returned v ∧ Below w.heap.size w w'
theorem empty_calls (w : World) : Calls Try.prog 36 #[] w (Post (.agg #[.int .i64 0, .string (noughts 220)]) w) := by
  have h77 := z220
  have hb : ((w.alloc (Obj.cells #[Value.int IntKind.i64 0, Value.string { data := #[] }] 35)).alloc (Obj.cells (row (noughts 220)) 108)).heap[w.heap.size + 1]? = some (.cells (row (noughts 220)) 108 (0, 0)) := by
    rw [← World.size_alloc]; exact heap_alloc_new _ _
  have hc := conv_whole hb 92 5 9 Try.underlying92 Try.underlying5 Try.underlying9 220 220 (noughts_size 220)
  clear hb
  go_enter Try.func36, Try.ntmps36
  go_wp2
  exact bodyPost_ret (v := .agg #[.int .i64 0, .string (noughts 220)]) (by simp [results, Try.results36, go_sem]) rfl ⟨rfl, ((Below.refl _ _).alloc (Nat.le_refl _) _).alloc (by simp) _⟩
theorem right_calls (p0 : Int) (p1 : ByteArray) (b : Bool) (hbb : b = decide (0 ≤ p0 ∧ p0 ≤ 2147483647 ∧ p1.size = 220)) (w : World) : Calls Try.prog 32 #[.agg #[.int .i64 p0, .string p1]] w (Post (.bool b) w) := by
  by_cases h0 : 0 ≤ p0
  · by_cases h1 : p0 ≤ 2147483647
    · have t0 : decide (0 ≤ p0) = true := by simpa using h0
      have t1 : decide (p0 ≤ 2147483647) = true := by simpa using h1
      have HB := Lib.hid hbb; clear hbb
      go_enter Try.func32, Try.ntmps32
      go_wp2
      go_ret
      have e : b = ((p1.size : Int) == 220) := by
        rw [HB.out, Bool.eq_iff_iff]; simp only [decide_eq_true_eq, beq_iff_eq]; omega
      subst e
      exact ⟨rfl, (Below.refl _ _).alloc (Nat.le_refl _) _⟩
    · have t0 : decide (0 ≤ p0) = true := by simpa using h0
      have t1 : decide (p0 ≤ 2147483647) = false := by simpa using h1
      obtain rfl : b = false := by rw [hbb]; simp; omega
      clear hbb
      go_enter Try.func32, Try.ntmps32
      go_wp2
      go_ret
      exact ⟨rfl, (Below.refl _ _).alloc (Nat.le_refl _) _⟩
  · have t0 : decide (0 ≤ p0) = false := by simpa using h0
    obtain rfl : b = false := by rw [hbb]; simp; omega
    clear hbb
    go_enter Try.func32, Try.ntmps32
    go_wp2
    go_ret
    exact ⟨rfl, (Below.refl _ _).alloc (Nat.le_refl _) _⟩
/-- What page.Put gives: the page's place, its bytes, the error. -/
def putF (p0 : Int) (p1 : ByteArray) (off : Int) (s : ByteArray) (at_ : Int) : Int × ByteArray × Int :=
  if 0 ≤ p0 ∧ p0 ≤ 2147483647 ∧ p1.size = 220 then
    if 0 ≤ at_ ∧ at_ ≤ 2147483647 then
      if 0 ≤ off ∧ off + s.size ≤ 220 then (at_, splice p1 off.toNat s, 0) else (0, ⟨#[]⟩, 2)
    else (0, ⟨#[]⟩, 1)
  else (0, ⟨#[]⟩, 3)
end Go.Proofs.Ytcelfhoomhmioaa.Page
set_option maxRecDepth 8192
namespace Go.Proofs.Ytcelfhoomhmioaa.Page
open Go Go.RowKit Go.Proofs.Ytcelfhoomhmioaa.Arr Go.Proofs.YtcelfhoomhmioaaW.PrintWords Go.Proofs.YtcelfhoomhmioaaW.PrintMore
attribute [local go_sem] max2_int min2_int max_two min_two
set_option linter.unusedVariables false
set_option maxRecDepth 100000 in
theorem z224 (w : World) : (zeroValue 152).run Try.prog w = .ok (.agg (row (noughts 224))) w := by rw [row_noughts]; kernel_rfl
/-- A byte set. -/
def setB (s : ByteArray) (i : Nat) (b : UInt8) : ByteArray := ⟨s.data.setIfInBounds i b⟩
theorem setB_size (s : ByteArray) (i : Nat) (b : UInt8) : (setB s i b).size = s.size := Array.size_setIfInBounds ..
theorem row_setB (s : ByteArray) (i : Nat) (v : Int) (h0 : 0 ≤ v) (h1 : v < 256) : (row s).setIfInBounds i (.int .u8 v) = row (setB s i (UInt8.ofNat v.toNat)) := by
  apply Array.toList_inj.1
  have e : ((UInt8.ofNat v.toNat).toNat : Int) = v := by
    rw [UInt8.toNat_ofNat']; omega
  simp only [row, setB, Lib.byteCells, Array.toList_setIfInBounds, List.map_set, e]
/-- Four bytes of a number, the highest first: the first k of them laid into s. -/
def be (a : Int) (i : Nat) : UInt8 := UInt8.ofNat ((a / 2 ^ (24 - 8 * i)) % 256).toNat
def laid (s : ByteArray) (a : Int) : Nat → ByteArray
  | 0 => s
  | k + 1 => setB (laid s a k) k (be a k)
theorem laid_size (s : ByteArray) (a : Int) (k : Nat) : (laid s a k).size = s.size := by
  induction k with
  | zero => rfl
  | succ k ih => rw [laid, setB_size, ih]
theorem store_laid {w : World} {g : Nat} {T : TypeId} {s : ByteArray} {a : Int} (k : Nat) (h : w.heap[g]? = some (.cells (row (laid s a k)) T (0, 0))) (v : Int) (hv : v = (a / 2 ^ (24 - 8 * k)) % 256) : (w.setCell ⟨g, k, none⟩ (.int .u8 v)).heap[g]? = some (.cells (row (laid s a (k + 1))) T (0, 0)) := by
  have h2 := blk_set h k (.int .u8 v)
  have hb : 0 ≤ v ∧ v < 256 := by subst hv; omega
  rw [row_setB _ _ _ hb.1 hb.2] at h2
  rw [h2, laid, be, hv]
def packF (p0 : Int) (p1 : ByteArray) : ByteArray × Int :=
  if 0 ≤ p0 ∧ p0 ≤ 2147483647 ∧ p1.size = 220 then (splice (laid (noughts 224) p0 4) 4 p1, 0) else (⟨#[]⟩, 3)
set_option maxRecDepth 8192 in
theorem pack_calls (p0 : Int) (p1 : ByteArray) (w : World) :
    Calls Try.prog 59 #[.agg #[.int .i64 p0, .string p1]] w (Post (.tuple #[.string (packF p0 p1).1, .int .i64 (packF p0 p1).2]) w) := by
  unfold packF
  by_cases hp : 0 ≤ p0 ∧ p0 ≤ 2147483647 ∧ p1.size = 220
  · rw [if_pos hp]
    have hr := right_calls p0 p1 true (by simp [hp])
    go_enter Try.func59, Try.ntmps59
    go_upto_region 1 with (fail)
    have b0 := heap_alloc_new w (Obj.cells #[Value.int IntKind.i64 p0, Value.string p1] 35)
    have hB := (Below.refl w.heap.size w).alloc (Nat.le_refl _) (Obj.cells #[Value.int IntKind.i64 p0, Value.string p1] 35)
    generalize w.alloc (Obj.cells #[Value.int IntKind.i64 p0, Value.string p1] 35) = W at *
    have c0 := blk_cell b0 0; have c1 := blk_cell b0 1
    have B0 := Aside0.mk b0; have HB := Aside0.mk hB; clear b0 hB
    have HP := Aside0.mk hp; clear hp
    go_upto_region 3 with (go_at_call 32; refine (hr _).mono ?_; rintro e w' ⟨rfl, hb⟩)
    have h77 := z224
    go_upto_region 4 with (fail)
    have e0 := blk_alloc (blk_below B0.out hb) (Obj.cells (row (noughts 224)) 152)
    have e1 := heap_alloc_new w' (Obj.cells (row (noughts 224)) 152)
    have hB3 := (below_trans HB.out hb).alloc (by have := hb.size; have := HB.out.size; omega) (Obj.cells (row (noughts 224)) 152)
    have hz2 : w.heap.size < w'.heap.size := blk_lt (blk_below B0.out hb)
    have B0' := Aside0.mk e0; have B1 := Aside0.mk e1; have HB3 := Aside0.mk hB3
    clear B0 HB c0 c1 hb h77 e0 e1 hB3
    generalize w'.alloc (Obj.cells (row (noughts 224)) 152) = w2 at *
    generalize w'.heap.size = g at *
    go_upto_region 5 with (fail)
    go_loopw [9] (fun i wr => ∃ k : Nat, i = .int .i64 k ∧ Aside0 (k ≤ 4) ∧ Aside0 (wr.heap[w.heap.size]? = some (.cells #[.int .i64 p0, .string p1] 35 (0, 0))) ∧ Aside0 (wr.heap[g]? = some (.cells (row (laid (noughts 224) p0 k)) 152 (0, 0))) ∧ Aside0 (Below w.heap.size w wr)) (fun i _ => 4 - (intOf i).toNat)
    case atStart => exact ⟨0, rfl, ⟨by omega⟩, B0', B1, HB3⟩
    case round =>
      clear B0' B1 HB3
      obtain ⟨k, rfl, hk, B0, B1, HB⟩ := hrel
      have hp0 := HP.out.1
      have hp1 := HP.out.2.1
      rcases (show k = 0 ∨ k = 1 ∨ k = 2 ∨ k = 3 ∨ k = 4 by have := hk.out; omega) with rfl | rfl | rfl | rfl | rfl
      · have c0 := blk_cell B0.out 0
        have c1 := (blk_cell B1.out 0).trans (row_cell _ 0 (by rw [laid_size, noughts_size]; omega))
        have f1 := blk_frozen B1.out 0
        go_wp2
        have B3 := store_laid 0 B1.out (p0 / 16777216) (by omega)
        go_roundw
        case rel => exact ⟨1, rfl, ⟨by omega⟩, ⟨blk_far B0.out (by simp; omega) _⟩, ⟨B3⟩, ⟨HB.out.setCell (by simp; omega) _⟩⟩
        case measure => simp [intOf]
      · have c0 := blk_cell B0.out 0
        have c1 := (blk_cell B1.out 1).trans (row_cell _ 1 (by rw [laid_size, noughts_size]; omega))
        have f1 := blk_frozen B1.out 1
        go_wp2
        have B3 := store_laid 1 B1.out (p0 / 65536 % 256) (by omega)
        go_roundw
        case rel => exact ⟨2, rfl, ⟨by omega⟩, ⟨blk_far B0.out (by simp; omega) _⟩, ⟨B3⟩, ⟨HB.out.setCell (by simp; omega) _⟩⟩
        case measure => simp [intOf]
      · have c0 := blk_cell B0.out 0
        have c1 := (blk_cell B1.out 2).trans (row_cell _ 2 (by rw [laid_size, noughts_size]; omega))
        have f1 := blk_frozen B1.out 2
        go_wp2
        have B3 := store_laid 2 B1.out (p0 / 256 % 256) (by omega)
        go_roundw
        case rel => exact ⟨3, rfl, ⟨by omega⟩, ⟨blk_far B0.out (by simp; omega) _⟩, ⟨B3⟩, ⟨HB.out.setCell (by simp; omega) _⟩⟩
        case measure => simp [intOf]
      · have c0 := blk_cell B0.out 0
        have c1 := (blk_cell B1.out 3).trans (row_cell _ 3 (by rw [laid_size, noughts_size]; omega))
        have f1 := blk_frozen B1.out 3
        go_wp2
        have B3 := store_laid 3 B1.out (p0 % 256) (by omega)
        go_roundw
        case rel => exact ⟨4, rfl, ⟨by omega⟩, ⟨blk_far B0.out (by simp; omega) _⟩, ⟨B3⟩, ⟨HB.out.setCell (by simp; omega) _⟩⟩
        case measure => simp [intOf]
      · clear hk
        go_upto_region 9 with (fail)
        have hs := HP.out.2.2
        have c0 := blk_cell B0.out 1
        have cp := copy_row (w := wr.drew) B1.out 92 9 3 5 Try.underlying92 rfl 4 220 220 p1 (by omega) (by rw [laid_size, noughts_size]; omega)
        have g0 := set_row (w := wr.drew) B1.out (row (splice (laid (noughts 224) p0 4) 4 p1))
        have hB5 := below_setRow (HB.out.drew) (g := g) (by omega) (row (splice (laid (noughts 224) p0 4) 4 p1))
        have cv := conv_whole g0 92 5 9 Try.underlying92 Try.underlying5 Try.underlying9 224 224 (by rw [splice_size _ _ _ (by rw [laid_size, noughts_size]; omega), laid_size, noughts_size])
        have CV := Aside0.mk cv; have HB5 := Aside0.mk hB5
        clear cv g0 hB5 hs
        go_region
        generalize wr.drew.setRow g (row (splice (laid (noughts 224) p0 4) 4 p1)) = w5 at *
        have cv := CV.out
        clear cp
        go_wp2
        go_ret2
        exact ⟨rfl, HB5.out⟩
  · rw [if_neg hp]
    have hr := right_calls p0 p1 false (by simp [hp])
    clear hp
    go_enter Try.func59, Try.ntmps59
    go_wp2_with (go_at_call 32; refine (hr _).mono ?_; rintro e w' ⟨rfl, hb⟩)
    go_ret2
    exact ⟨rfl, below_trans ((Below.refl w.heap.size w).alloc (Nat.le_refl _) _) hb⟩
end Go.Proofs.Ytcelfhoomhmioaa.Page
set_option maxRecDepth 8192
namespace Go.Proofs.Ytcelfhoomhmioaa.Slab
open Go Go.RowKit Go.Proofs.Ytcelfhoomhmioaa.Arr Go.Proofs.YtcelfhoomhmioaaW.PrintWords Go.Proofs.YtcelfhoomhmioaaW.PrintMore
set_option linter.unusedVariables false
def Post (v : Value) (w : World) (e : Ending) (w' : World) : Prop := e = .returned v ∧ Below w.heap.size w w'
abbrev B32 := BitVec 32
def poly : B32 := 0xEDB88320#32
def n32 (c : B32) : Int := (c.toNat : Int)
def U (c : B32) : Value := .int .u32 (n32 c)
/-- One bit of the sum. -/
def step (c : B32) : B32 := (c >>> 1) ^^^ (poly &&& -(c &&& 1#32))
def steps : Nat → B32 → B32
  | 0, c => c
  | k + 1, c => step (steps k c)
/-- The sum of a half byte. -/
def nib (c : B32) : B32 := steps 4 c
def half (c : B32) : B32 := (c >>> 4) ^^^ nib (c &&& 15#32)
def byteS (c : B32) (b : UInt8) : B32 := half (half (c ^^^ b.toBitVec.zeroExtend 32))
def crc (s : ByteArray) : B32 := ~~~ (s.data.toList.foldl byteS 0xFFFFFFFF#32)
theorem n32_lt (c : B32) : 0 ≤ n32 c ∧ n32 c < 4294967296 := by
  have := c.isLt
  unfold n32
  omega
theorem of32 (c : B32) : BitVec.ofInt 32 (n32 c) = c := by unfold n32; simp
theorem w32 (c : B32) : IntKind.u32.wrap (n32 c) = n32 c := by have := n32_lt c; rw [IntKind.wrap_u32]; omega
theorem bits_xor (a b : B32) : bits .xor .u32 (n32 a) (n32 b) = n32 (a ^^^ b) := by
  show IntKind.u32.wrap (((BitVec.ofInt 32 (n32 a)) ^^^ (BitVec.ofInt 32 (n32 b))).toNat : Int) = _
  rw [of32, of32]; exact w32 _
theorem bits_and (a b : B32) : bits .and .u32 (n32 a) (n32 b) = n32 (a &&& b) := by
  show IntKind.u32.wrap (((BitVec.ofInt 32 (n32 a)) &&& (BitVec.ofInt 32 (n32 b))).toNat : Int) = _
  rw [of32, of32]; exact w32 _
theorem bits_and1 (a : B32) : bits .and .u32 (n32 a) 1 = n32 (a &&& 1#32) := bits_and a 1#32
theorem bits_and15 (a : B32) : bits .and .u32 (n32 a) 15 = n32 (a &&& 15#32) := bits_and a 15#32
theorem bits_andp (a : B32) : bits .and .u32 3988292384 (n32 a) = n32 (poly &&& a) := bits_and poly a
theorem bits_xorf (a : B32) : bits .xor .u32 4294967295 (n32 a) = n32 (~~~ a) := by
  have := bits_xor 0xFFFFFFFF#32 a
  rw [show (0xFFFFFFFF#32 ^^^ a) = ~~~ a from by rw [← BitVec.allOnes_xor]; rfl] at this
  exact this
theorem neg32 (a : B32) : IntKind.u32.wrap (0 - n32 a) = n32 (-a) := by
  rw [IntKind.wrap_u32]; unfold n32
  have := a.isLt
  rw [BitVec.toNat_neg]; omega
theorem neg32' (a : B32) : -n32 a % 4294967296 = n32 (-a) := by
  have := neg32 a
  rw [IntKind.wrap_u32] at this
  rw [← this]; congr 1; omega
theorem shr32_1 (a : B32) : n32 a / (2 : Int) = n32 (a >>> 1) := by unfold n32; simp [Nat.shiftRight_eq_div_pow]
theorem shr32_4 (a : B32) : n32 a / (16 : Int) = n32 (a >>> 4) := by unfold n32; simp [Nat.shiftRight_eq_div_pow]
/-- What lies in a table of half bytes' sums, the first k laid. -/
def tab (k : Nat) : Array Value := ((List.range 16).map fun i => if i < k then U (nib (BitVec.ofNat 32 i)) else .int .u32 0).toArray
set_option maxRecDepth 100000 in
theorem z45 (w : World) : (zeroValue 155).run Try.prog w = .ok (.agg (tab 0)) w := by kernel_rfl
def tabV : Value := .agg #[.int .u32 0, .int .u32 498536548, .int .u32 997073096, .int .u32 651767980, .int .u32 1994146192, .int .u32 1802195444, .int .u32 1303535960, .int .u32 1342533948, .int .u32 3988292384, .int .u32 4027552580, .int .u32 3604390888, .int .u32 3412177804, .int .u32 2607071920, .int .u32 2262029012, .int .u32 2685067896, .int .u32 3183342108]
theorem tab16 : tab 16 = #[.int .u32 0, .int .u32 498536548, .int .u32 997073096, .int .u32 651767980, .int .u32 1994146192, .int .u32 1802195444, .int .u32 1303535960, .int .u32 1342533948, .int .u32 3988292384, .int .u32 4027552580, .int .u32 3604390888, .int .u32 3412177804, .int .u32 2607071920, .int .u32 2262029012, .int .u32 2685067896, .int .u32 3183342108] := by
  rfl
theorem tab_set (k : Nat) (hk : k < 16) : (tab k).setIfInBounds k (U (nib (BitVec.ofNat 32 k))) = tab (k + 1) := by
  unfold tab
  rw [List.setIfInBounds_toArray]
  congr 1
  apply List.ext_getElem (by simp)
  intro n h1 h2
  rw [List.getElem_set]
  simp only [List.getElem_map, List.getElem_range]
  by_cases e : k = n
  · subst e; simp
  · rw [if_neg e]
    by_cases f : n < k
    · rw [if_pos f, if_pos (by omega)]
    · rw [if_neg f, if_neg (by omega)]
theorem tab_cell (k i : Nat) (hi : i < 16) : (tab k)[i]? = some (if i < k then U (nib (BitVec.ofNat 32 i)) else .int .u32 0) := by
  unfold tab
  simp [hi]
attribute [local go_sem] bits_xor bits_and bits_and1 bits_andp bits_and15 bits_xorf neg32 shr32_1 shr32_4
section
variable {P : Program}
theorem results_c {fn : Func} {p : Tmp} {ty : TypeId} (h : fn.results = #[.cell p ty]) (tmps : Array Value) (w : World) (g : Nat) (t : TypeId) (cs : Array Value) (fr : Nat × Nat) (d : TypeDesc)
    (hp : tmps.getD p undef = .pointer (some ⟨g, 0, none⟩)) (hg : w.heap[g]? = some (.cells cs t fr))
    (hu : P.underlying ty = some d) (hd : (match d with | .struct _ | .array _ _ => true | _ => false) = true) (hi : (P.info? ty).map (·.size) = some cs.size) :
    (results fn tmps).run P w = .ok (.agg cs) w := by
  have hp' : tmps[p]?.getD undef = .pointer (some ⟨g, 0, none⟩) := by simpa using hp
  simp [results, h, hp', asAddr, run_loadVar_row w g t ty cs fr d hg hu hd hi]
end
set_option maxRecDepth 20000 in
theorem table_calls (w : World) : Calls Try.prog 81 #[] w (Post tabV w) := by
  have h45 := z45
  go_enter Try.func81, Try.ntmps81
  go_upto_region 1 with (fail)
  have b0 := heap_alloc_new w (Obj.cells (tab 0) 155)
  have hB := (Below.refl w.heap.size w).alloc (Nat.le_refl _) (Obj.cells (tab 0) 155)
  have B0 := Aside0.mk b0; have HB := Aside0.mk hB; clear b0 hB h45
  generalize w.alloc (Obj.cells (tab 0) 155) = W at *
  go_upto_region 2 with (fail)
  go_loopw [1, 2, 3] (fun v1 v2 i wr => ∃ k : Nat, i = .int .i64 k ∧ Aside0 (k ≤ 16) ∧ Aside0 (wr.heap[w.heap.size]? = some (.cells (tab k) 155 (0, 0))) ∧ Aside0 (Below w.heap.size w wr)) (fun _ _ i _ => 16 - (intOf i).toNat)
  case atStart => exact ⟨0, rfl, ⟨by omega⟩, B0, HB⟩
  case round =>
    clear B0 HB
    obtain ⟨k, rfl, K, B0, HB⟩ := hrel
    by_cases hlt : (k : Int) < 16
    · have hk : k < 16 := by omega
      have hge : (0 : Int) ≤ (k : Int) := by omega
      have hw : IntKind.u32.wrap (k : Int) = n32 (BitVec.ofNat 32 k) := by
        rw [IntKind.wrap_u32]; unfold n32; rw [BitVec.toNat_ofNat]; omega
      go_upto_region 6 with (fail)
      clear hw
      go_loopw [2, 8] (fun v i w1 => ∃ m : Nat, i = .int .i64 m ∧ v = .int .u32 (n32 (steps m (BitVec.ofNat 32 k))) ∧ w1 = wr ∧ Aside0 (m ≤ 4)) (fun _ i _ => 4 - (intOf i).toNat)
      case atStart => exact ⟨0, rfl, rfl, rfl, ⟨by omega⟩⟩
      case round =>
        obtain ⟨m, rfl, rfl, rfl, M⟩ := hrel
        by_cases hm : (m : Int) < 4
        · have hm0 : (0 : Int) ≤ (m : Int) := by omega
          go_wp2
          go_roundw
          case rel =>
            refine ⟨m + 1, by go_num, ?_, by trivial, ⟨by omega⟩⟩
            rw [neg32', bits_andp, bits_xor]
            rfl
          case measure => simp [intOf]; omega
        · obtain rfl : m = 4 := by have := M.out; omega
          have c1 := (blk_cell B0.out k).trans (tab_cell k k hk)
          rw [if_neg (Nat.lt_irrefl k)] at c1
          have f1 := blk_frozen B0.out k
          have i0 : (0 : Int) ≤ (k : Int) := by omega
          clear M hm
          go_wp2
          have B1 : (wr.setCell ⟨w.heap.size, k, none⟩ (.int .u32 (n32 (steps 4 (BitVec.ofNat 32 k))))).heap[w.heap.size]? = some (.cells (tab (k + 1)) 155 (0, 0)) := by
            have h2 := blk_set B0.out k (U (nib (BitVec.ofNat 32 k)))
            rw [tab_set k hk] at h2
            exact h2
          have HB1 := HB.out.setCell (p := ⟨w.heap.size, k, none⟩) (Nat.le_refl _) (.int .u32 (n32 (steps 4 (BitVec.ofNat 32 k))))
          go_roundw
          case rel => exact ⟨k + 1, by go_num, ⟨by omega⟩, ⟨B1⟩, ⟨HB1⟩⟩
          case measure => simp [intOf]; omega
    · obtain rfl : k = 16 := by have := K.out; omega
      clear K hlt
      have b := B0.out
      rw [tab16] at b
      have c0 := blk_cell b 0; have c1 := blk_cell b 1; have c2 := blk_cell b 2; have c3 := blk_cell b 3; have c4 := blk_cell b 4; have c5 := blk_cell b 5; have c6 := blk_cell b 6; have c7 := blk_cell b 7; have c8 := blk_cell b 8; have c9 := blk_cell b 9; have c10 := blk_cell b 10; have c11 := blk_cell b 11; have c12 := blk_cell b 12; have c13 := blk_cell b 13; have c14 := blk_cell b 14; have c15 := blk_cell b 15
      have f0 := blk_frozen b 0; have f1 := blk_frozen b 1; have f2 := blk_frozen b 2; have f3 := blk_frozen b 3; have f4 := blk_frozen b 4; have f5 := blk_frozen b 5; have f6 := blk_frozen b 6; have f7 := blk_frozen b 7; have f8 := blk_frozen b 8; have f9 := blk_frozen b 9; have f10 := blk_frozen b 10; have f11 := blk_frozen b 11; have f12 := blk_frozen b 12; have f13 := blk_frozen b 13; have f14 := blk_frozen b 14; have f15 := blk_frozen b 15
      clear b
      go_wp2
      have b := B0.out
      rw [tab16] at b
      have b2 := (blk_set (blk_set (blk_set (blk_set (blk_set (blk_set (blk_set (blk_set (blk_set (blk_set (blk_set (blk_set (blk_set (blk_set (blk_set (blk_set b 0 (.int .u32 0)) 1 (.int .u32 498536548)) 2 (.int .u32 997073096)) 3 (.int .u32 651767980)) 4 (.int .u32 1994146192)) 5 (.int .u32 1802195444)) 6 (.int .u32 1303535960)) 7 (.int .u32 1342533948)) 8 (.int .u32 3988292384)) 9 (.int .u32 4027552580)) 10 (.int .u32 3604390888)) 11 (.int .u32 3412177804)) 12 (.int .u32 2607071920)) 13 (.int .u32 2262029012)) 14 (.int .u32 2685067896)) 15 (.int .u32 3183342108))
      have hB2 := ((((((((((((((((HB.out.setCell (p := ⟨w.heap.size, 0, none⟩) (Nat.le_refl _) (.int .u32 0)).setCell (p := ⟨w.heap.size, 1, none⟩) (Nat.le_refl _) (.int .u32 498536548)).setCell (p := ⟨w.heap.size, 2, none⟩) (Nat.le_refl _) (.int .u32 997073096)).setCell (p := ⟨w.heap.size, 3, none⟩) (Nat.le_refl _) (.int .u32 651767980)).setCell (p := ⟨w.heap.size, 4, none⟩) (Nat.le_refl _) (.int .u32 1994146192)).setCell (p := ⟨w.heap.size, 5, none⟩) (Nat.le_refl _) (.int .u32 1802195444)).setCell (p := ⟨w.heap.size, 6, none⟩) (Nat.le_refl _) (.int .u32 1303535960)).setCell (p := ⟨w.heap.size, 7, none⟩) (Nat.le_refl _) (.int .u32 1342533948)).setCell (p := ⟨w.heap.size, 8, none⟩) (Nat.le_refl _) (.int .u32 3988292384)).setCell (p := ⟨w.heap.size, 9, none⟩) (Nat.le_refl _) (.int .u32 4027552580)).setCell (p := ⟨w.heap.size, 10, none⟩) (Nat.le_refl _) (.int .u32 3604390888)).setCell (p := ⟨w.heap.size, 11, none⟩) (Nat.le_refl _) (.int .u32 3412177804)).setCell (p := ⟨w.heap.size, 12, none⟩) (Nat.le_refl _) (.int .u32 2607071920)).setCell (p := ⟨w.heap.size, 13, none⟩) (Nat.le_refl _) (.int .u32 2262029012)).setCell (p := ⟨w.heap.size, 14, none⟩) (Nat.le_refl _) (.int .u32 2685067896)).setCell (p := ⟨w.heap.size, 15, none⟩) (Nat.le_refl _) (.int .u32 3183342108))
      refine bodyPost_ret (results_c rfl _ _ _ _ _ _ _ rfl b2 Try.underlying155 rfl rfl) rfl ⟨rfl, hB2⟩
end Go.Proofs.Ytcelfhoomhmioaa.Slab
set_option maxRecDepth 8192
namespace Go.Proofs.Ytcelfhoomhmioaa.Slab
open Go Go.RowKit Go.Proofs.Ytcelfhoomhmioaa.Arr Go.Proofs.YtcelfhoomhmioaaW.PrintWords Go.Proofs.YtcelfhoomhmioaaW.PrintMore
set_option linter.unusedVariables false
attribute [local go_sem] bits_xor bits_and bits_and1 bits_andp bits_and15 bits_xorf neg32 shr32_1 shr32_4
/-- The sum's state behind the first k bytes. -/
def sumTo (s : ByteArray) (k : Nat) : B32 := (s.data.toList.take k).foldl byteS 0xFFFFFFFF#32
theorem sumTo_succ (s : ByteArray) (k : Nat) (h : k < s.size) : sumTo s (k + 1) = byteS (sumTo s k) s[k] := by
  have h1 : k < s.data.toList.length := by simpa using h
  unfold sumTo
  rw [List.take_succ_eq_append_getElem h1, List.foldl_append]
  rfl
theorem sumTo_all (s : ByteArray) : ~~~ (sumTo s s.size) = crc s := by
  unfold sumTo crc
  rw [List.take_of_length_le (Nat.le_of_eq (show s.data.toList.length = s.size from Array.length_toList ..))]
theorem zext (b : UInt8) : ((b.toNat : Nat) : Int) % 4294967296 = n32 (b.toBitVec.zeroExtend 32) := by
  unfold n32
  have h := b.toBitVec.isLt
  have e : b.toBitVec.toNat = b.toNat := rfl
  rw [show (BitVec.zeroExtend 32 b.toBitVec).toNat = b.toNat % 2 ^ 32 from by rw [BitVec.toNat_setWidth, e]]
  omega
theorem tab_at {w : World} {g : Nat} {T : TypeId} (h : w.heap[g]? = some (.cells (tab 16) T (0, 0))) (x : B32) : w.cell? ⟨g, (n32 (x &&& 15#32)).toNat, none⟩ = some (.int .u32 (n32 (nib (x &&& 15#32)))) ∧ 0 ≤ n32 (x &&& 15#32) ∧ n32 (x &&& 15#32) < 16 := by
  have hl : (x &&& 15#32).toNat < 16 := by
    rw [BitVec.toNat_and]
    exact Nat.lt_of_le_of_lt Nat.and_le_right (by decide)
  have e : (n32 (x &&& 15#32)).toNat = (x &&& 15#32).toNat := by unfold n32; simp
  refine ⟨?_, (n32_lt _).1, by unfold n32; omega⟩
  rw [e, (blk_cell h _).trans (tab_cell 16 _ hl), if_pos hl, BitVec.ofNat_toNat, BitVec.setWidth_eq]
  rfl
theorem bits_xorm (a : B32) : bits .xor .u32 IntKind.u32.max (n32 a) = n32 (~~~ a) := bits_xorf a
theorem sum_calls (s : ByteArray) (hs : s.size < 9223372036854775807) (w : World) : Calls Try.prog 76 #[.string s] w (Post (U (crc s)) w) := by
  go_enter Try.func76, Try.ntmps76
  go_upto_region 2 with (go_at_call 81; refine (table_calls _).mono ?_; rintro e w1 ⟨rfl, hb⟩; unfold tabV)
  rw [← tab16]
  have b0 := heap_alloc_new w1 (Obj.cells (tab 16) 155)
  have hB := below_trans hb ((Below.refl w1.heap.size w1).alloc (Nat.le_refl _) (Obj.cells (tab 16) 155))
  have B0 := Aside0.mk b0; have HB := Aside0.mk hB; clear b0 hB hb
  generalize w1.alloc (Obj.cells (tab 16) 155) = W at *
  generalize w1.heap.size = g at *
  go_upto_region 4 with (fail)
  go_loopw [4, 9] (fun v i wr => ∃ k : Nat, i = .int .i64 k ∧ v = .int .u32 (n32 (sumTo s k)) ∧ wr = W ∧ Aside0 (k ≤ s.size)) (fun _ i _ => s.size - (intOf i).toNat)
  case atStart => exact ⟨0, rfl, rfl, rfl, ⟨by omega⟩⟩
  case round =>
    obtain ⟨k, rfl, rfl, rfl, K⟩ := hrel
    by_cases hlt : (k : Int) < (s.size : Int)
    · have hk : k < s.size := by omega
      have hge : (0 : Int) ≤ (k : Int) := by omega
      have hwk : wrap64 ((k : Int) + 1) = ((k + 1 : Nat) : Int) := by unfold wrap64; omega
      go_upto_region 7 with (fail)
      rw [zext, bits_xor]
      have HS := Aside0.mk (show byteS (sumTo s k) s[k] = half (half (sumTo s k ^^^ BitVec.zeroExtend 32 s[k].toBitVec)) from rfl)
      generalize sumTo s k ^^^ BitVec.zeroExtend 32 s[k].toBitVec = x at *
      obtain ⟨t0, t1, t2⟩ := tab_at B0.out x
      go_upto_region 8 with (fail)
      have HY := Aside0.mk (show half x = x >>> 4 ^^^ nib (x &&& 15#32) from rfl)
      clear t0 t1 t2
      generalize x >>> 4 ^^^ nib (x &&& 15#32) = y at *
      obtain ⟨t0, t1, t2⟩ := tab_at B0.out y
      go_wp2
      have HZ : y >>> 4 ^^^ nib (y &&& 15#32) = sumTo s (k + 1) := by
        rw [sumTo_succ s k hk, HS.out, HY.out]; rfl
      clear t0 t1 t2
      go_roundw
      case rel => exact ⟨k + 1, by first | rw [hwk] | go_num, by rw [HZ], by trivial, ⟨by omega⟩⟩
      case measure =>
        try rw [hwk]
        simp [intOf]; omega
    · obtain rfl : k = s.size := by have := K.out; omega
      clear hlt
      go_wp2
      rw [bits_xorm, sumTo_all]
      go_ret
      exact ⟨rfl, HB.out⟩
end Go.Proofs.Ytcelfhoomhmioaa.Slab
set_option maxRecDepth 8192
namespace Go.Proofs.Ytcelfhoomhmioaa.Slab
open Go.Proofs.Ytcelfhoomhmioaa.Rgn
open Go Go.RowKit Go.Proofs.Ytcelfhoomhmioaa.Arr Go.Proofs.YtcelfhoomhmioaaW.PrintWords Go.Proofs.YtcelfhoomhmioaaW.PrintLast Go.Proofs.YtcelfhoomhmioaaW.PrintMore
set_option linter.unusedVariables false
set_option linter.unusedSimpArgs false
set_option maxRecDepth 100000 in
theorem z128 (w : World) : (zeroValue 107).run Try.prog w = .ok (.agg (row (noughts 128))) w := by rw [row_noughts]; kernel_rfl
/-- A byte set. -/
def setB (s : ByteArray) (i : Nat) (b : UInt8) : ByteArray := ⟨s.data.setIfInBounds i b⟩
theorem setB_size (s : ByteArray) (i : Nat) (b : UInt8) : (setB s i b).size = s.size := Array.size_setIfInBounds ..
theorem row_setB (s : ByteArray) (i : Nat) (v : Int) (h0 : 0 ≤ v) (h1 : v < 256) : (row s).setIfInBounds i (.int .u8 v) = row (setB s i (UInt8.ofNat v.toNat)) := by
  apply Array.toList_inj.1
  have e : ((UInt8.ofNat v.toNat).toNat : Int) = v := by
    rw [UInt8.toNat_ofNat']; omega
  simp only [row, setB, Lib.byteCells, Array.toList_setIfInBounds, List.map_set, e]
/-- Four bytes of a number, the highest first; the lowest first. -/
def be (a : Int) (i : Nat) : UInt8 := UInt8.ofNat ((a / 2 ^ (24 - 8 * i)) % 256).toNat
def le (a : Int) (i : Nat) : UInt8 := UInt8.ofNat ((a / 2 ^ (8 * i)) % 256).toNat
def laid (s : ByteArray) (o : Nat) (b : Nat → UInt8) : Nat → ByteArray
  | 0 => s
  | k + 1 => setB (laid s o b k) (o + k) (b k)
theorem laid_size (s : ByteArray) (o : Nat) (b : Nat → UInt8) (k : Nat) : (laid s o b k).size = s.size := by
  induction k with
  | zero => rfl
  | succ k ih => rw [laid, setB_size, ih]
theorem store_laid {w : World} {g : Nat} {T : TypeId} {s : ByteArray} {o : Nat} {b : Nat → UInt8} (k : Nat) (h : w.heap[g]? = some (.cells (row (laid s o b k)) T (0, 0))) (v : Int) (hv : UInt8.ofNat v.toNat = b k) (h0 : 0 ≤ v) (h1 : v < 256) : (w.setCell ⟨g, o + k, none⟩ (.int .u8 v)).heap[g]? = some (.cells (row (laid s o b (k + 1))) T (0, 0)) := by
  have h2 := blk_set h (o + k) (.int .u8 v)
  rw [row_setB _ _ _ h0 h1, hv] at h2
  exact h2
theorem put_calls (s : ByteArray) (T : TypeId) (o g len cap : Nat) (n : B32) (w : World) (hg : w.heap[g]? = some (.cells (row s) T (0, 0))) (ho : o + 4 ≤ s.size) (hl : 4 ≤ len) :
    Calls Try.prog 75 #[.slice (some ⟨g, o, none⟩) len cap, U n] w fun e w' => e = .returned (.tuple #[]) ∧ w'.heap[g]? = some (.cells (row (laid s o (be (n32 n)) 4)) T (0, 0)) ∧ Below g w w' := by
  have hn := n32_lt n
  unfold U
  generalize hm : n32 n = m at *
  have HM := Aside0.mk hm; clear hm
  have B0 := Aside0.mk hg; clear hg
  have HB := Aside0.mk (Below.refl g w)
  go_enter Try.func75, Try.ntmps75
  go_upto_region 1 with (fail)
  go_loopw [5] (fun i wr => ∃ k : Nat, i = .int .i64 k ∧ Aside0 (k ≤ 4) ∧ Aside0 (wr.heap[g]? = some (.cells (row (laid s o (be m) k)) T (0, 0))) ∧ Aside0 (Below g w wr)) (fun i _ => 4 - (intOf i).toNat)
  case atStart => exact ⟨0, rfl, ⟨by omega⟩, B0, HB⟩
  case round =>
    clear B0 HB
    obtain ⟨k, rfl, hk, B0, HB⟩ := hrel
    rcases (show k = 0 ∨ k = 1 ∨ k = 2 ∨ k = 3 ∨ k = 4 by have := hk.out; omega) with rfl | rfl | rfl | rfl | rfl
    · have c1 : wr.cell? ⟨g, o, none⟩ = _ := (blk_cell B0.out (o + 0)).trans (row_cell _ (o + 0) (by rw [laid_size]; omega))
      have f1 : wr.frozen? ⟨g, o, none⟩ = false := blk_frozen B0.out (o + 0)
      have i0 : (0 : Int) < (len : Int) := by omega
      go_wp2
      have B3 := store_laid 0 B0.out (m / 16777216) (by unfold be; congr 2 <;> omega) (by omega) (by omega)
      have HB3 := HB.out.setCell (p := ⟨g, o + 0, none⟩) (Nat.le_refl g) (.int .u8 (m / 16777216))
      go_roundw
      case rel => exact ⟨1, rfl, ⟨by omega⟩, ⟨B3⟩, ⟨HB3⟩⟩
      case measure => simp [intOf]
    · have c1 : wr.cell? ⟨g, o + 1, none⟩ = _ := (blk_cell B0.out (o + 1)).trans (row_cell _ (o + 1) (by rw [laid_size]; omega))
      have f1 : wr.frozen? ⟨g, o + 1, none⟩ = false := blk_frozen B0.out (o + 1)
      have i0 : (1 : Int) < (len : Int) := by omega
      go_wp2
      have B3 := store_laid 1 B0.out (m / 65536 % 256) (by unfold be; congr 2 <;> omega) (by omega) (by omega)
      have HB3 := HB.out.setCell (p := ⟨g, o + 1, none⟩) (Nat.le_refl g) (.int .u8 (m / 65536 % 256))
      go_roundw
      case rel => exact ⟨2, rfl, ⟨by omega⟩, ⟨B3⟩, ⟨HB3⟩⟩
      case measure => simp [intOf]
    · have c1 : wr.cell? ⟨g, o + 2, none⟩ = _ := (blk_cell B0.out (o + 2)).trans (row_cell _ (o + 2) (by rw [laid_size]; omega))
      have f1 : wr.frozen? ⟨g, o + 2, none⟩ = false := blk_frozen B0.out (o + 2)
      have i0 : (2 : Int) < (len : Int) := by omega
      go_wp2
      have B3 := store_laid 2 B0.out (m / 256 % 256) (by unfold be; congr 2 <;> omega) (by omega) (by omega)
      have HB3 := HB.out.setCell (p := ⟨g, o + 2, none⟩) (Nat.le_refl g) (.int .u8 (m / 256 % 256))
      go_roundw
      case rel => exact ⟨3, rfl, ⟨by omega⟩, ⟨B3⟩, ⟨HB3⟩⟩
      case measure => simp [intOf]
    · have c1 : wr.cell? ⟨g, o + 3, none⟩ = _ := (blk_cell B0.out (o + 3)).trans (row_cell _ (o + 3) (by rw [laid_size]; omega))
      have f1 : wr.frozen? ⟨g, o + 3, none⟩ = false := blk_frozen B0.out (o + 3)
      have i0 : (3 : Int) < (len : Int) := by omega
      go_wp2
      have B3 := store_laid 3 B0.out (m % 256) (by unfold be; congr 2 <;> omega) (by omega) (by omega)
      have HB3 := HB.out.setCell (p := ⟨g, o + 3, none⟩) (Nat.le_refl g) (.int .u8 (m % 256))
      go_roundw
      case rel => exact ⟨4, rfl, ⟨by omega⟩, ⟨B3⟩, ⟨HB3⟩⟩
      case measure => simp [intOf]
    · clear hk
      go_wp2
      have hm := HM.out
      first | go_end0 | ((try simp only [Exit.inBlock, Exit.then]); refine bodyPost_end (results_none rfl _ _ _) rfl ?_)
      subst hm
      exact ⟨rfl, B0.out, HB.out⟩
/-- The sector ahead of its sum; with it. -/
def bare (e i : B32) (b : ByteArray) : ByteArray := splice (setB (laid (laid (noughts 128) 0 (be (n32 e)) 4) 4 (be (n32 i)) 4) 9 (UInt8.ofNat b.size)) 12 b
def sector (e i : B32) (b : ByteArray) : ByteArray := laid (bare e i b) 124 (le (n32 (crc ((bare e i b).extract 0 124)))) 4
def packF (e i : B32) (b : ByteArray) : ByteArray × Int := if b.size ≤ 112 then (sector e i b, 0) else (⟨#[]⟩, 1)
set_option maxRecDepth 4096 in
theorem pack_calls (e i : B32) (b : ByteArray) (w : World) : Calls Try.prog 55 #[.agg #[U e, U i, .string b]] w (Post (.tuple #[.string (packF e i b).1, .int .i64 (packF e i b).2]) w) := by
  unfold packF
  by_cases hb : b.size ≤ 112
  · rw [if_pos hb]
    have d0 : decide ((112 : Int) < (b.size : Int)) = false := by rw [decide_eq_false_iff_not]; omega
    go_enter Try.func55, Try.ntmps55
    go_upto_region 1 with (fail)
    have b0 := heap_alloc_new w (Obj.cells #[U e, U i, .string b] 88)
    have hB := (Below.refl w.heap.size w).alloc (Nat.le_refl _) (Obj.cells #[U e, U i, .string b] 88)
    generalize w.alloc (Obj.cells #[U e, U i, .string b] 88) = W at *
    have c2 := blk_cell b0 2
    have B0 := Aside0.mk b0; have HB := Aside0.mk hB; clear b0 hB
    have h43 := z128
    go_upto_region 4 with (fail)
    have e0 := blk_alloc B0.out (Obj.cells (row (noughts 128)) 107)
    have e1 := heap_alloc_new W (Obj.cells (row (noughts 128)) 107)
    have hz : w.heap.size < W.heap.size := blk_lt B0.out
    have hB3 := HB.out.alloc (Nat.le_of_lt hz) (Obj.cells (row (noughts 128)) 107)
    have B02 := Aside0.mk e0; have B12 := Aside0.mk e1; have HB2 := Aside0.mk hB3
    clear B0 HB c2 h43 e0 e1 hB3 d0
    generalize W.alloc (Obj.cells (row (noughts 128)) 107) = w2 at *
    generalize W.heap.size = g at *
    have c0 := blk_cell B02.out 0
    refine start_ (n := 4) (S := fun w' => w'.cell? ⟨w.heap.size, 0, none⟩ = some (U e)) (ds := []) #[false, false, false, false] (by kernel_rfl) rfl rfl c0 (fun hHeld => ?_)
    refine rgp 0 11 ?_
    refine rgp 1 12 ?_
    refine rgt 2 13 hHeld ?_
    refine one_ (i := 3) (N := some 14) #[true, true, true, true] rfl rfl (by kernel_rfl) (by decide) (fun K hK => ?_)
    refine goes_ Try.func75 (by kernel_rfl) rfl #[.slice (some ⟨g, 0, none⟩) 128 128, U e] (by rfl) rfl rfl (by (try simp only [List.map_toArray, List.map_cons, List.map_nil]); first | done | rfl) ?_
    refine (put_calls (noughts 128) 107 0 g 128 128 e w2.drew B12.out (by simp only [laid_size, noughts_size]; omega) (by omega)).mono ?_
    rintro e' w4 ⟨rfl, b4, hb4⟩
    refine ⟨_, rfl, ?_⟩
    have B14 := Aside0.mk b4
    have HB4 := Aside0.mk (HB2.out.drew.trans (hb4.mono (Nat.le_of_lt hz)))
    have B04 := Aside0.mk (show w4.heap[w.heap.size]? = _ from (hb4.block w.heap.size hz).trans B02.out)
    refine hK _ _ ((hb4.cell (p := ⟨w.heap.size, 0, none⟩) hz).trans hHeld) (fun _ => ?_)
    clear hK K hb4 b4
    refine norm_ (a' := ?_) ?_ ?_
    rotate_left
    · show Act.put _ (some 14) _ = _
      simp only [Act.put, List.setIfInBounds_toArray, List.set_cons_zero, List.set_cons_succ, i64_w, i32_w]
      rfl
    refine done_ (by kernel_rfl) ?_
    clear c0 hHeld B02 B12 HB2
    go_upto_region 5 with (fail)
    have c0 := blk_cell B04.out 1
    refine start_ (n := 4) (S := fun w' => w'.cell? ⟨w.heap.size, 1, none⟩ = some (U i)) (ds := []) #[false, false, false, false] (by kernel_rfl) rfl rfl c0 (fun hHeld => ?_)
    refine rgp 0 15 ?_
    refine rgp 1 16 ?_
    refine rgt 2 17 hHeld ?_
    refine one_ (i := 3) (N := some 18) #[true, true, true, true] rfl rfl (by kernel_rfl) (by decide) (fun K hK => ?_)
    refine goes_ Try.func75 (by kernel_rfl) rfl #[.slice (some ⟨g, 4, none⟩) 124 124, U i] (by rfl) rfl rfl (by (try simp only [List.map_toArray, List.map_cons, List.map_nil]); first | done | rfl) ?_
    refine (put_calls (laid (noughts 128) 0 (be (n32 e)) 4) 107 4 g 124 124 i w4.drew B14.out (by simp only [laid_size, noughts_size]; omega) (by omega)).mono ?_
    rintro e' w5 ⟨rfl, b5, hb5⟩
    refine ⟨_, rfl, ?_⟩
    have B15 := Aside0.mk b5
    have HB5 := Aside0.mk (HB4.out.drew.trans (hb5.mono (Nat.le_of_lt hz)))
    have B05 := Aside0.mk (show w5.heap[w.heap.size]? = _ from (hb5.block w.heap.size hz).trans B04.out)
    refine hK _ _ ((hb5.cell (p := ⟨w.heap.size, 1, none⟩) hz).trans hHeld) (fun _ => ?_)
    clear hK K hb5 b5
    refine norm_ (a' := ?_) ?_ ?_
    rotate_left
    · show Act.put _ (some 18) _ = _
      simp only [Act.put, List.setIfInBounds_toArray, List.set_cons_zero, List.set_cons_succ, i64_w, i32_w]
      rfl
    refine done_ (by kernel_rfl) ?_
    clear c0 hHeld B04 B14 HB4
    have hsz : (laid (laid (noughts 128) 0 (be (n32 e)) 4) 4 (be (n32 i)) 4).size = 128 := by rw [laid_size, laid_size, noughts_size]
    have HBR := Aside0.mk (show bare e i b = splice (setB (laid (laid (noughts 128) 0 (be (n32 e)) 4) 4 (be (n32 i)) 4) 9 (UInt8.ofNat b.size)) 12 b from rfl)
    have HSE := Aside0.mk (show sector e i b = laid (bare e i b) 124 (le (n32 (crc ((bare e i b).extract 0 124)))) 4 from rfl)
    generalize laid (laid (noughts 128) 0 (be (n32 e)) 4) 4 (be (n32 i)) 4 = s2 at *
    have c2 := blk_cell B05.out 2
    have c9 := (blk_cell B15.out 9).trans (row_cell _ 9 (by omega))
    have f9 := blk_frozen B15.out 9
    go_upto_region 7 with (fail)
    clear c2 c9 f9
    have B6 := blk_set B15.out 9 (.int .u8 (b.size : Int))
    rw [row_setB _ _ _ (by omega) (by omega), Int.toNat_natCast] at B6
    have hs3 : (setB s2 9 (UInt8.ofNat b.size)).size = 128 := by rw [setB_size, hsz]
    have B06 := Aside0.mk (blk_far B05.out (p := ⟨g, 9, none⟩) (by simp; omega) (.int .u8 (b.size : Int)))
    have HB6 := Aside0.mk (HB5.out.setCell (p := ⟨g, 9, none⟩) (by simp; omega) (.int .u8 (b.size : Int)))
    generalize w5.setCell ⟨g, 9, none⟩ (.int .u8 (b.size : Int)) = w6 at *
    generalize setB s2 9 (UInt8.ofNat b.size) = s3 at *
    have c2 := blk_cell B06.out 2
    have cp := copy_row (w := w6.drew) B6 92 9 3 5 Try.underlying92 rfl 12 116 116 b (by omega) (by omega)
    have g0 := set_row (w := w6.drew) B6 (row (splice s3 12 b))
    have hB7 := below_setRow (HB6.out.drew) (g := g) (by omega) (row (splice s3 12 b))
    have hs4 : (splice s3 12 b).size = 128 := by rw [splice_size _ _ _ (by omega), hs3]
    rw [← HBR.out] at g0 hB7 hs4 cp
    have cv := conv_row g0 92 5 9 Try.underlying92 Try.underlying5 Try.underlying9 0 124 128 (by omega)
    have G0 := Aside0.mk g0; have HB7 := Aside0.mk hB7; have CV := Aside0.mk cv
    clear g0 hB7 cv B6 B05 HB5 B15 hsz
    go_region
    generalize w6.drew.setRow g (row (bare e i b)) = w7 at *
    have cv := CV.out
    clear cp c2 B06 HB6
    rw [Nat.zero_add] at cv
    have hs5 : ((bare e i b).extract 0 124).size < 9223372036854775807 := by
      rw [ByteArray.size_extract]; omega
    go_upto_region 9 with (go_at_call 76; refine (sum_calls _ hs5 _).mono ?_; rintro e' w8 ⟨rfl, hb8⟩)
    have B8 := Aside0.mk (blk_below G0.out hb8)
    have HB8 := Aside0.mk (below_trans HB7.out hb8)
    have hn := n32_lt (crc ((bare e i b).extract 0 124))
    clear CV cv G0 HB7 hb8 HBR hs5
    unfold U
    generalize n32 (crc ((bare e i b).extract 0 124)) = m at *
    generalize bare e i b = sB at *
    go_upto_region 10 with (fail)
    go_loopw [6, 31] (fun _ i wr => ∃ k : Nat, i = .int .i64 k ∧ Aside0 (k ≤ 4) ∧ Aside0 (wr.heap[g]? = some (.cells (row (laid sB 124 (le m) k)) 107 (0, 0))) ∧ Aside0 (Below w.heap.size w wr)) (fun _ i _ => 4 - (intOf i).toNat)
    case atStart => exact ⟨0, rfl, ⟨by omega⟩, B8, HB8⟩
    case round =>
      clear B8 HB8
      obtain ⟨k, rfl, hk, B0, HB⟩ := hrel
      rcases (show k = 0 ∨ k = 1 ∨ k = 2 ∨ k = 3 ∨ k = 4 by have := hk.out; omega) with rfl | rfl | rfl | rfl | rfl
      · have c1 : wr.cell? ⟨g, 124, none⟩ = _ := (blk_cell B0.out (124 + 0)).trans (row_cell _ (124 + 0) (by rw [laid_size]; omega))
        have f1 : wr.frozen? ⟨g, 124, none⟩ = false := blk_frozen B0.out (124 + 0)
        go_wp2
        have B3 := store_laid 0 B0.out (m % 256) (by unfold le; congr 2 <;> omega) (by omega) (by omega)
        have HB3 := HB.out.setCell (p := ⟨g, 124 + 0, none⟩) (Nat.le_of_lt hz) (.int .u8 (m % 256))
        go_roundw
        case rel => exact ⟨1, rfl, ⟨by omega⟩, ⟨B3⟩, ⟨HB3⟩⟩
        case measure => simp [intOf]
      · have c1 : wr.cell? ⟨g, 125, none⟩ = _ := (blk_cell B0.out (124 + 1)).trans (row_cell _ (124 + 1) (by rw [laid_size]; omega))
        have f1 : wr.frozen? ⟨g, 125, none⟩ = false := blk_frozen B0.out (124 + 1)
        go_wp2
        have B3 := store_laid 1 B0.out (m / 256 % 256) (by unfold le; congr 2 <;> omega) (by omega) (by omega)
        have HB3 := HB.out.setCell (p := ⟨g, 124 + 1, none⟩) (Nat.le_of_lt hz) (.int .u8 (m / 256 % 256))
        go_roundw
        case rel => exact ⟨2, rfl, ⟨by omega⟩, ⟨B3⟩, ⟨HB3⟩⟩
        case measure => simp [intOf]
      · have c1 : wr.cell? ⟨g, 126, none⟩ = _ := (blk_cell B0.out (124 + 2)).trans (row_cell _ (124 + 2) (by rw [laid_size]; omega))
        have f1 : wr.frozen? ⟨g, 126, none⟩ = false := blk_frozen B0.out (124 + 2)
        go_wp2
        have B3 := store_laid 2 B0.out (m / 65536 % 256) (by unfold le; congr 2 <;> omega) (by omega) (by omega)
        have HB3 := HB.out.setCell (p := ⟨g, 124 + 2, none⟩) (Nat.le_of_lt hz) (.int .u8 (m / 65536 % 256))
        go_roundw
        case rel => exact ⟨3, rfl, ⟨by omega⟩, ⟨B3⟩, ⟨HB3⟩⟩
        case measure => simp [intOf]
      · have c1 : wr.cell? ⟨g, 127, none⟩ = _ := (blk_cell B0.out (124 + 3)).trans (row_cell _ (124 + 3) (by rw [laid_size]; omega))
        have f1 : wr.frozen? ⟨g, 127, none⟩ = false := blk_frozen B0.out (124 + 3)
        go_wp2
        have B3 := store_laid 3 B0.out (m / 16777216) (by unfold le; congr 2 <;> omega) (by omega) (by omega)
        have HB3 := HB.out.setCell (p := ⟨g, 124 + 3, none⟩) (Nat.le_of_lt hz) (.int .u8 (m / 16777216))
        go_roundw
        case rel => exact ⟨4, rfl, ⟨by omega⟩, ⟨B3⟩, ⟨HB3⟩⟩
        case measure => simp [intOf]
      · clear hk
        have cv := conv_whole B0.out 92 5 9 Try.underlying92 Try.underlying5 Try.underlying9 128 128 (by rw [laid_size]; exact hs4)
        go_wp2
        go_ret2
        rw [HSE.out]
        exact ⟨rfl, HB.out⟩
  · rw [if_neg hb]
    have d0 : decide ((112 : Int) < (b.size : Int)) = true := by rw [decide_eq_true_iff]; omega
    go_enter Try.func55, Try.ntmps55
    go_wp2
    go_ret2
    exact ⟨rfl, (Below.refl w.heap.size w).alloc (Nat.le_refl _) _⟩
end Go.Proofs.Ytcelfhoomhmioaa.Slab
-- Written by this session's xprint.py (the kit's print, with contracts proved by hand).
namespace Go.Proofs.Ytcelfhoomhmioaa.X12
open Go.RowKit Go.Proofs.YtcelfhoomhmioaaW.PrintWords Go.Proofs.YtcelfhoomhmioaaW.PrintLast Go.Proofs.YtcelfhoomhmioaaW.PrintMore
attribute [local go_sem] max2_int min2_int max_two min_two max_three min_three max_four min_four   -- for this text's walks alone
set_option linter.unusedVariables false
set_option linter.unusedSimpArgs false
def errW : Option Int → Value
  | none => .nilIface
  | some c => .iface 0 (.int .i64 c)
theorem errW_none : errW none = .nilIface := rfl
theorem errW_some (c : Int) : errW (some c) = .iface 0 (.int .i64 c) := rfl
theorem info5 : (Try.prog.info? 5).map (fun i => (i.zero, i.size, i.bytes)) = some (some (.int .u8 0), 1, 1) := by kernel_rfl
-- the values' own types
structure S134 where
  f0 : Int
  f1 : Int
  f2 : Int
def z134 : S134 := ⟨(0 : Int), (0 : Int), (0 : Int)⟩
def k134 : Kd S134 := Kd.iso (Kd.pair (Kd.int .i64) (Kd.pair (Kd.int .i64) (Kd.int .i64))) (fun x : S134 => (x.f0, x.f1, x.f2))
def rd_T134 (xs : List S134) (i : Int) : S134 := xs.getD i.toNat z134
structure S70 where
  f0 : Int
  f1 : Int
def z70 : S70 := ⟨(0 : Int), (0 : Int)⟩
def k70 : Kd S70 := Kd.iso (Kd.pair (Kd.int .i64) (Kd.int .i64)) (fun x : S70 => (x.f0, x.f1))
def rd_T70 (xs : List S70) (i : Int) : S70 := xs.getD i.toNat z70
end Go.Proofs.Ytcelfhoomhmioaa.X12
-- Written by this session's xprint.py (the kit's print, with contracts proved by hand).
namespace Go.Proofs.Ytcelfhoomhmioaa.X12
open Go.RowKit Go.Proofs.YtcelfhoomhmioaaW.PrintWords Go.Proofs.YtcelfhoomhmioaaW.PrintLast Go.Proofs.YtcelfhoomhmioaaW.PrintMore
attribute [local go_sem] max2_int min2_int max_two min_two max_three min_three max_four min_four   -- for this text's walks alone
set_option linter.unusedVariables false
set_option linter.unusedSimpArgs false
-- NOT PRINTED: function 81 (slab_table)
def slab_Pack.f (a0_0 a0_1 : Int) (a0_2 : ByteArray) : Option (ByteArray × Int) := if (0 ≤ a0_0 ∧ a0_0 < 4294967296) ∧ (0 ≤ a0_1 ∧ a0_1 < 4294967296) then some (Slab.packF (BitVec.ofInt 32 a0_0) (BitVec.ofInt 32 a0_1) a0_2) else none
theorem slab_Pack.calls (a0_0 a0_1 : Int) (a0_2 : ByteArray) (r1 : ByteArray) (r2 : Int) (w : World) (h : slab_Pack.f a0_0 a0_1 a0_2 = some (r1, r2)) :
    Calls Try.prog 55 #[.agg #[.int .u32 a0_0, .int .u32 a0_1, .string a0_2]] w fun e w' => e = .returned (.tuple #[.string r1, .int .i64 r2]) ∧ Below w.heap.size w w' := by
  unfold slab_Pack.f at h
  by_cases c : (0 ≤ a0_0 ∧ a0_0 < 4294967296) ∧ (0 ≤ a0_1 ∧ a0_1 < 4294967296)
  · rw [if_pos c] at h
    have k := Slab.pack_calls (BitVec.ofInt 32 a0_0) (BitVec.ofInt 32 a0_1) a0_2 w
    have e : ∀ a : Int, 0 ≤ a ∧ a < 4294967296 → Slab.U (BitVec.ofInt 32 a) = .int .u32 a := by
      intro a ha
      unfold Slab.U Slab.n32
      rw [BitVec.toNat_ofInt]
      congr 1; omega
    rw [e _ c.1, e _ c.2, Option.some.inj h] at k
    exact k
  · rw [if_neg c] at h; cases h
def slab_get.l0 : Nat → ByteArray → Int → Int → Option (Int)
  | 0, _, _, _ => none
  | k + 1, x0, x2, x4 => if x4 < 4 then (if 0 ≤ x4 then (if x4 < (x0.size : Int) then (slab_get.l0 k x0 (Go.bits .or .u32 ((x2 * 256) % 4294967296) ((bt x0 x4) % 4294967296)) (wrap64 (x4 + 1))) else (none)) else (none)) else (some x2)
def slab_get.f (k : Nat) (a0 : ByteArray) : Option (Int) := slab_get.l0 k a0 0 0
set_option maxHeartbeats 8000000 in
set_option maxRecDepth 100000 in
theorem slab_get.calls (k : Nat) (a0 : ByteArray) (r : Int) (w : World) (h : slab_get.f k a0 = some r) :
    Calls Try.prog 64 #[.string a0] w fun e w' => e = .returned (.int .u32 r) ∧ Drawn0 w w' := by
  have H : (slab_get.l0 k a0 0 0) = some r := h
  clear h
  have H' := Aside0.mk H
  clear H
  go_enter Try.func64, Try.ntmps64
  go_wp2
  go_loopg [2, 4] k (fun kq v2 v4 w' => ∃ (x2_1 : Int) (x4_1 : Int), v2 = .int .u32 x2_1 ∧ v4 = .int .i64 x4_1 ∧ Aside0 (slab_get.l0 kq a0 x2_1 x4_1 = some r) ∧ Aside0 (kq ≤ k) ∧ Drawn0 w w')
  case atStart => exact ⟨(0), (0), (by first | rfl | (simp; done) | (simp [*]; done)), (by first | rfl | (simp; done) | (simp [*]; done)), H', ⟨Nat.le_refl _⟩, by repeat (first | exact Drawn0.refl _ | apply Drawn0.step)⟩
  case round =>
    clear H'
    obtain ⟨x2_1, x4_1, rfl, rfl, HA, HK1, ⟨m1, rfl⟩⟩ := hrel
    cases gk with
    | zero => exact nomatch (show none = some _ from HA.out)
    | succ k1 =>
      have H := HA.out
      clear HA
      simp only [slab_get.l0] at H
      by_cases c2 : x4_1 < 4
      · rw [if_pos c2] at H
        have c2b0 : decide (x4_1 < 4) = true := decide_eq_true c2
        clear c2
        by_cases c3 : 0 ≤ x4_1
        · rw [if_pos c3] at H
          have c3b0 : decide (0 ≤ x4_1) = true := decide_eq_true c3
          clear c3
          by_cases c4 : x4_1 < (a0.size : Int)
          · rw [if_pos c4] at H
            have c4b0 : decide (x4_1 < (a0.size : Int)) = true := decide_eq_true c4
            clear c4
            have H' := Aside0.mk H
            clear H
            have p5 : 0 ≤ (x4_1 : Int) := of_decide_eq_true (by first | (with_reducible assumption) | assumption)
            have q5 : x4_1 < (a0.size : Int) := of_decide_eq_true (by first | (with_reducible assumption) | assumption)
            have hx5 := bt_at a0 x4_1
            replace p5 := eq_true p5
            replace q5 := eq_true q5
            go_wp2
            go_roundg k1
            case measure => have := HK1.out; omega
            case rel => exact ⟨(Go.bits .or .u32 ((x2_1 * 256) % 4294967296) ((bt a0 x4_1) % 4294967296)), (wrap64 (x4_1 + 1)), (by first | rfl | (simp; done) | (simp [*]; done)), (by first | rfl | (simp; done) | (simp [*]; done)), H', ⟨by have := HK1.out; omega⟩, by repeat (first | exact Drawn0.refl _ | apply Drawn0.step)⟩
          · rw [if_neg c4] at H
            exact absurd H (by simp)
        · rw [if_neg c3] at H
          exact absurd H (by simp)
      · rw [if_neg c2] at H
        have c2b0 : decide (x4_1 < 4) = false := decide_eq_false c2
        clear c2
        obtain rfl := Option.some.inj H
        go_wp2
        go_ret
        exact ⟨by first | rfl | (simp; done) | (simp [*]; done), by repeat (first | exact Drawn0.refl _ | apply Drawn0.step)⟩
end Go.Proofs.Ytcelfhoomhmioaa.X12
set_option maxRecDepth 8192
namespace Go.Proofs.Ytcelfhoomhmioaa.Slab
open Go Go.RowKit Go.Proofs.Ytcelfhoomhmioaa.Arr Go.Proofs.YtcelfhoomhmioaaW.PrintWords
set_option linter.unusedVariables false
def beL (a : Int) : List UInt8 := [be a 0, be a 1, be a 2, be a 3]
def leL (a : Int) : List UInt8 := [le a 0, le a 1, le a 2, le a 3]
def crcL (l : List UInt8) : B32 := ~~~ (l.foldl byteS 0xFFFFFFFF#32)
/-- A sector's first 124 bytes; all. -/
def bareL (e i : Int) (b : List UInt8) : List UInt8 := beL e ++ beL i ++ [0, UInt8.ofNat b.length, 0, 0] ++ b ++ List.replicate (112 - b.length) 0
def secL (e i : Int) (b : List UInt8) : List UInt8 := bareL e i b ++ leL (n32 (crcL (bareL e i b)))
theorem bareL_len (e i : Int) (b : List UInt8) (h : b.length ≤ 112) : (bareL e i b).length = 124 := by
  simp [bareL, beL]; omega
theorem secL_len (e i : Int) (b : List UInt8) (h : b.length ≤ 112) : (secL e i b).length = 128 := by
  rw [secL, List.length_append, bareL_len e i b h]; rfl
theorem laid_list (s : ByteArray) (o : Nat) (b : Nat → UInt8) : (laid s o b 4).data.toList = (((s.data.toList.set o (b 0)).set (o + 1) (b 1)).set (o + 2) (b 2)).set (o + 3) (b 3) := by
  simp [laid, setB]
theorem head_list (e i : B32) (n : UInt8) : (setB (laid (laid (noughts 128) 0 (be (n32 e)) 4) 4 (be (n32 i)) 4) 9 n).data.toList = (beL (n32 e) ++ beL (n32 i) ++ [0, n, 0, 0]) ++ List.replicate 116 0 := by
  show ((laid (laid (noughts 128) 0 (be (n32 e)) 4) 4 (be (n32 i)) 4).data.setIfInBounds 9 n).toList = _
  rw [Array.toList_setIfInBounds, laid_list, laid_list]
  rfl
theorem bare_list (e i : B32) (b : ByteArray) (hb : b.size ≤ 112) : (bare e i b).data.toList = bareL (n32 e) (n32 i) b.data.toList ++ [0, 0, 0, 0] := by
  have hl : b.data.toList.length = b.size := by simp
  unfold bare splice
  simp only [head_list]
  have h12 : (beL (n32 e) ++ beL (n32 i) ++ [0, UInt8.ofNat b.size, 0, 0]).length = 12 := rfl
  rw [List.take_append_of_le_length (by rw [h12]; exact Nat.le_refl _), List.take_of_length_le (by rw [h12]; exact Nat.le_refl _), List.drop_append, List.drop_of_length_le (by rw [h12]; omega), h12, List.nil_append, List.drop_replicate]
  unfold bareL
  rw [hl, List.append_assoc (_ ++ b.data.toList)]
  congr 1
  rw [show ([0, 0, 0, 0] : List UInt8) = List.replicate 4 0 from rfl, List.replicate_append_replicate]
  congr 1
  omega
theorem sector_list (e i : B32) (b : ByteArray) (hb : b.size ≤ 112) : (sector e i b).data.toList = secL (n32 e) (n32 i) b.data.toList := by
  have hl : b.data.toList.length ≤ 112 := by simpa using hb
  have hB := bareL_len (n32 e) (n32 i) b.data.toList hl
  have hx : ((bare e i b).extract 0 124).data.toList = bareL (n32 e) (n32 i) b.data.toList := by
    rw [ByteArray.data_extract, Array.toList_extract, bare_list e i b hb]
    simp [List.extract, hB]
  unfold sector secL
  rw [laid_list, bare_list e i b hb]
  have hc : crc ((bare e i b).extract 0 124) = crcL (bareL (n32 e) (n32 i) b.data.toList) := by unfold crc crcL; rw [hx]
  rw [hc]
  generalize bareL (n32 e) (n32 i) b.data.toList = L at *
  rw [List.set_append_right _ _ (by omega), List.set_append_right _ _ (by omega), List.set_append_right _ _ (by omega), List.set_append_right _ _ (by omega), hB]
  rfl
def num4 (a b c d : UInt8) : Int := (a.toNat : Int) * 16777216 + b.toNat * 65536 + c.toNat * 256 + d.toNat
theorem num4_be (a : Int) (h : 0 ≤ a ∧ a < 4294967296) : num4 (be a 0) (be a 1) (be a 2) (be a 3) = a := by
  unfold num4 be
  simp only [UInt8.toNat_ofNat']
  simp only [show (24 - 8 * 0) = 24 from rfl, show (24 - 8 * 1) = 16 from rfl, show (24 - 8 * 2) = 8 from rfl, show (24 - 8 * 3) = 0 from rfl]
  have e24 : (2 : Int) ^ 24 = 16777216 := rfl
  have e16 : (2 : Int) ^ 16 = 65536 := rfl
  have e8 : (2 : Int) ^ 8 = 256 := rfl
  have e0 : (2 : Int) ^ 0 = 1 := rfl
  rw [e24, e16, e8, e0]
  omega
/-- What a sector's bytes tell: epoch, index, body. -/
def readL (l : List UInt8) : Int × Int × List UInt8 :=
  (num4 (l.getD 0 0) (l.getD 1 0) (l.getD 2 0) (l.getD 3 0), num4 (l.getD 4 0) (l.getD 5 0) (l.getD 6 0) (l.getD 7 0), (l.drop 12).take (l.getD 9 0).toNat)
theorem read_sec (e i : Int) (b : List UInt8) (he : 0 ≤ e ∧ e < 4294967296) (hi : 0 ≤ i ∧ i < 4294967296) (hb : b.length ≤ 112) : readL (secL e i b) = (e, i, b) := by
  have h9 : (UInt8.ofNat b.length).toNat = b.length := by rw [UInt8.toNat_ofNat']; omega
  have e0 : num4 (be e 0) (be e 1) (be e 2) (be e 3) = e := num4_be e he
  have e1 : num4 (be i 0) (be i 1) (be i 2) (be i 3) = i := num4_be i hi
  unfold readL
  have d : (secL e i b).drop 12 = b ++ (List.replicate (112 - b.length) 0 ++ leL (n32 (crcL (bareL e i b)))) := by
    unfold secL
    generalize leL (n32 (crcL (bareL e i b))) = z
    unfold bareL
    rw [List.append_assoc, List.append_assoc]
    rfl
  have g : ∀ j, j < 12 → (secL e i b).getD j 0 = (beL e ++ beL i ++ [0, UInt8.ofNat b.length, 0, 0]).getD j 0 := by
    intro j hj
    unfold secL
    generalize leL (n32 (crcL (bareL e i b))) = z
    unfold bareL
    rw [List.getD_eq_getElem?_getD, List.getD_eq_getElem?_getD, List.append_assoc, List.append_assoc, List.getElem?_append_left]
    exact hj
  rw [d, g 0 (by omega), g 1 (by omega), g 2 (by omega), g 3 (by omega), g 4 (by omega), g 5 (by omega), g 6 (by omega), g 7 (by omega), g 9 (by omega)]
  show (num4 (be e 0) (be e 1) (be e 2) (be e 3), num4 (be i 0) (be i 1) (be i 2) (be i 3), List.take (UInt8.ofNat b.length).toNat _) = _
  rw [e0, e1, h9, List.take_append_of_le_length (Nat.le_refl _), List.take_length]
end Go.Proofs.Ytcelfhoomhmioaa.Slab
set_option maxRecDepth 8192
namespace Go.Proofs.Ytcelfhoomhmioaa.Dk
open Go Go.RowKit Go.ChangeMaps Go.Proofs.Ytcelfhoomhmioaa.Arr Go.Proofs.Ytcelfhoomhmioaa.Mp Go.Proofs.Ytcelfhoomhmioaa.Ow
set_option linter.unusedVariables false
set_option linter.unusedSimpArgs false
def Col (c : Nat → Nat) (x : Nat) : Nat → Prop := fun k => c k = x
/-- From block n on all is of colour x. -/
def paint (c : Nat → Nat) (n x : Nat) : Nat → Nat := fun k => if k < n then c k else x
/-- What lay there ahead has colour 0. -/
def Olds (c : Nat → Nat) (B : Nat) : Prop := ∀ k, k < B → c k = 0
theorem paint_old {c : Nat → Nat} {n x k : Nat} (h : k < n) : paint c n x k = c k := by unfold paint; rw [if_pos h]
theorem paint_new {c : Nat → Nat} {n x k : Nat} (h : n ≤ k) : paint c n x k = x := by unfold paint; rw [if_neg (by omega)]
theorem top_paint (c : Nat → Nat) (w : World) (x : Nat) : Top (Col (paint c w.heap.size x) x) w := fun _ h => paint_new h
theorem Olds.paint {c : Nat → Nat} {B n : Nat} (h : Olds c B) (x : Nat) (hB : B ≤ n) : Olds (paint c n x) B := fun k hk => (paint_old (by omega)).trans (h k hk)
theorem FS.base {c : Nat → Nat} {x B : Nat} {w w' : World} (hf : FS (Col (Dk.paint c w.heap.size x) x) w w') (ho : Olds c B) (hx : x ≠ 0) : FS (fun k => B ≤ k) w w' := hf.mono fun k hk e => by
  show B ≤ k
  have e2 : c k = x := (paint_old hk).symm.trans e
  rcases Nat.lt_or_ge k B with h | h
  · exact absurd (e2.symm.trans (ho k h)) hx
  · exact h
section
variable {c : Nat → Nat} {w w' : World} {x y g : Nat} {d : DS}
theorem DK.paint (h : DK w (Col c y) g d) (x : Nat) : DK w (Col (Dk.paint c w.heap.size x) y) g d := h.mono fun k hk e => (paint_old hk).trans e
theorem DK.fresh {n : Nat} (h : DK w' (fun k => n ≤ k) g d) (c : Nat → Nat) (x : Nat) : DK w' (Col (Dk.paint c n x) x) g d := h.mono fun k _ hk => paint_new hk
theorem Ow.paint {e : TypeId} {sz : Nat} {v : Value} {n : Nat} {xs : List Value} (h : Ow w (Col c y) e sz v n xs) (x : Nat) : Ow w (Col (Dk.paint c w.heap.size x) y) e sz v n xs := h.mono fun k hk e => (paint_old hk).trans e
end
end Go.Proofs.Ytcelfhoomhmioaa.Dk
set_option maxRecDepth 8192
namespace Go.Proofs.Ytcelfhoomhmioaa.Fr
open Go Go.RowKit Go.ChangeMaps Go.Proofs.Ytcelfhoomhmioaa.Arr Go.Proofs.Ytcelfhoomhmioaa.Mp Go.Proofs.Ytcelfhoomhmioaa.Ow Go.Proofs.Ytcelfhoomhmioaa.Dk
set_option linter.unusedVariables false
set_option linter.unusedSimpArgs false
/-- From one world (and colours) to another: old blocks keep their colours, and those of other colours than M their cells. -/
structure Fr (M : List Nat) (w : World) (c : Nat → Nat) (w' : World) (c' : Nat → Nat) : Prop where
  os : w'.os = w.os
  tape : w'.tape = w.tape
  output : w'.output = w.output
  size : w.heap.size ≤ w'.heap.size
  col : ∀ k, k < w.heap.size → c' k = c k
  blk : ∀ k, k < w.heap.size → c k ∉ M → w'.heap[k]? = w.heap[k]?
/-- The ground of a call: all since then lies above, what lay there has colour 0. -/
structure Gr (w0 w : World) (c : Nat → Nat) : Prop where
  bel : Below w0.heap.size w0 w
  olds : Olds c w0.heap.size
/-- A block of colour x. -/
structure Loc (w : World) (c : Nat → Nat) (b x : Nat) (cs : Array Value) (T : TypeId) : Prop where
  blk : w.heap[b]? = some (.cells cs T (0, 0))
  col : c b = x
section
variable {M : List Nat} {w w' w'' w0 : World} {c c' c'' : Nat → Nat}
theorem Fr.refl (M : List Nat) (w : World) (c : Nat → Nat) : Fr M w c w c := ⟨rfl, rfl, rfl, Nat.le_refl _, fun _ _ => rfl, fun _ _ _ => rfl⟩
theorem Fr.trans (h : Fr M w c w' c') (h2 : Fr M w' c' w'' c'') : Fr M w c w'' c'' :=
  ⟨h2.os.trans h.os, h2.tape.trans h.tape, h2.output.trans h.output, Nat.le_trans h.size h2.size, fun k hk => (h2.col k (Nat.lt_of_lt_of_le hk h.size)).trans (h.col k hk),
    fun k hk hn => (h2.blk k (Nat.lt_of_lt_of_le hk h.size) (by rw [h.col k hk]; exact hn)).trans (h.blk k hk hn)⟩
theorem Fr.mono {M2 : List Nat} (h : Fr M w c w' c') (hs : ∀ x ∈ M, x ∈ M2) : Fr M2 w c w' c' := ⟨h.os, h.tape, h.output, h.size, h.col, fun k hk hn => h.blk k hk (fun e => hn (hs _ e))⟩
theorem Fr.of_below (h : Below w.heap.size w w') : Fr M w c w' c := ⟨h.os, h.tape, h.output, h.size, fun _ _ => rfl, fun k hk _ => h.block k hk⟩
theorem Fr.of_paint (h : Below w.heap.size w w') (x : Nat) : Fr M w c w' (Dk.paint c w.heap.size x) := ⟨h.os, h.tape, h.output, h.size, fun _ hk => paint_old hk, fun k hk _ => h.block k hk⟩
theorem Fr.of_fs {S : Nat → Prop} (h : FS S w w') (hc : ∀ k, k < w.heap.size → c' k = c k) (hs : ∀ k, k < w.heap.size → S k → c k ∈ M) : Fr M w c w' c' := ⟨h.os, h.tape, h.output, h.size, hc, fun k hk hn => h.block k hk (fun e => hn (hs k hk e))⟩
theorem Gr.step (h : Gr w0 w c) (hf : Fr M w c w' c') (h0 : 0 ∉ M) : Gr w0 w' c' := by
  have hz := h.bel.size
  refine ⟨⟨hf.os.trans h.bel.os, hf.tape.trans h.bel.tape, hf.output.trans h.bel.output, Nat.le_trans hz hf.size, fun k hk => ?_⟩, fun k hk => ?_⟩
  · rw [hf.blk k (Nat.lt_of_lt_of_le hk hz) (by rw [h.olds k hk]; exact h0)]
    exact h.bel.block k hk
  · rw [hf.col k (Nat.lt_of_lt_of_le hk hz)]
    exact h.olds k hk
theorem Gr.refl (w : World) : Gr w w (fun _ => 0) := ⟨Below.refl _ _, fun _ _ => rfl⟩
theorem Gr.below (h : Gr w0 w c) (hb : Below w.heap.size w w') : Gr w0 w' c := h.step (Fr.of_below (M := []) hb) (by decide)
theorem Gr.drew (h : Gr w0 w c) : Gr w0 w.drew c := h.below ((Below.refl _ _).drew)
theorem blk_lt' {k : Nat} {o : Obj} (h : w.heap[k]? = some o) : k < w.heap.size := by
  rcases Nat.lt_or_ge k w.heap.size with h1 | h1
  · exact h1
  · simp [Array.getElem?_eq_none h1] at h
variable {b x : Nat} {cs : Array Value} {T : TypeId}
theorem Loc.lt (h : Loc w c b x cs T) : b < w.heap.size := blk_lt' h.blk
theorem Loc.keep (h : Loc w c b x cs T) (hf : Fr M w c w' c') (hx : x ∉ M) : Loc w' c' b x cs T := ⟨(hf.blk b h.lt (by rw [h.col]; exact hx)).trans h.blk, (hf.col b h.lt).trans h.col⟩
theorem Loc.below (h : Loc w c b x cs T) (hb : Below w.heap.size w w') : Loc w' c b x cs T := h.keep (Fr.of_below (M := []) hb) (by simp)
theorem Loc.drew (h : Loc w c b x cs T) : Loc w.drew c b x cs T := h.below ((Below.refl _ _).drew)
/-- A new block of colour x. -/
theorem loc_alloc (w : World) (c : Nat → Nat) (x : Nat) (cs : Array Value) (T : TypeId) : Loc (w.alloc (.cells cs T)) (Dk.paint c w.heap.size x) w.heap.size x cs T := ⟨heap_alloc_new w _, paint_new (Nat.le_refl _)⟩
theorem fr_alloc (M : List Nat) (w : World) (c : Nat → Nat) (x : Nat) (o : Obj) : Fr M w c (w.alloc o) (Dk.paint c w.heap.size x) := Fr.of_paint ((Below.refl w.heap.size w).alloc (Nat.le_refl _) o) x
theorem fr_drew (M : List Nat) (w : World) (c : Nat → Nat) : Fr M w c w.drew c := Fr.of_below ((Below.refl _ _).drew)
/-- A store into a block of colour x. -/
theorem Loc.set (h : Loc w c b x cs T) (j : Nat) (v : Value) : Loc (w.setCell ⟨b, j, none⟩ v) c b x (cs.setIfInBounds j v) T := ⟨by
  simp only [World.setCell]
  rw [Array.getElem?_modify, if_pos rfl, h.blk]
  rfl, h.col⟩
theorem Loc.set_fr (h : Loc w c b x cs T) (j : Nat) (v : Value) : Fr [x] w c (w.setCell ⟨b, j, none⟩ v) c := by
  have hf := (FS.refl (fun k => k = b) w).setCell (p := ⟨b, j, none⟩) (.inl rfl) v
  exact Fr.of_fs hf (fun _ _ => rfl) (fun k _ e => by rw [e, h.col]; exact List.mem_singleton.2 rfl)
end
section
variable {M : List Nat} {w w' : World} {c c' : Nat → Nat} {x g : Nat} {d : DS}
/-- A disk of colour x. -/
theorem dk_keep (h : DK w (Col c x) g d) (hf : Fr M w c w' c') (hx : x ∉ M) : DK w' (Col c' x) g d := by
  have h1 : DK w (Col (fun k => if k < w.heap.size then c' k else x + 1) x) g d := h.mono fun k hk e => by
    show (if k < w.heap.size then c' k else x + 1) = x
    rw [if_pos hk, hf.col k hk]; exact e
  have h2 : DK w' (Col (fun k => if k < w.heap.size then c' k else x + 1) x) g d := h1.kept (S2 := fun k => w.heap.size ≤ k ∨ c' k ∈ M) ⟨hf.os, hf.tape, hf.output, hf.size, fun k hk hn => hf.blk k hk (fun e => hn (.inr (by rw [hf.col k hk]; exact e)))⟩ (fun k hk => by
    have hk' : (if k < w.heap.size then c' k else x + 1) = x := hk
    by_cases h : k < w.heap.size
    · rw [if_pos h] at hk'
      rintro (e | e)
      · omega
      · rw [hk'] at e; exact hx e
    · rw [if_neg h] at hk'; omega)
  exact h2.mono fun k hk e => by
    have hk' : (if k < w.heap.size then c' k else x + 1) = x := e
    by_cases h : k < w.heap.size
    · rw [if_pos h] at hk'; exact hk'
    · rw [if_neg h] at hk'; omega
/-- The frame of a call on a disk of colour x. -/
theorem fr_disk (hf : FS (Col (Dk.paint c w.heap.size x) x) w w') : Fr [x] w c w' (Dk.paint c w.heap.size x) := Fr.of_fs hf (fun k hk => paint_old hk) (fun k hk e => by
  have e2 : Dk.paint c w.heap.size x k = x := e
  rw [paint_old hk] at e2; rw [e2]; exact List.mem_singleton.2 rfl)
end
end Go.Proofs.Ytcelfhoomhmioaa.Fr
set_option maxRecDepth 8192
namespace Go.Proofs.Ytcelfhoomhmioaa.Mi
open Go Go.RowKit Go.MapKept Go.ChangeMaps Go.Proofs.Ytcelfhoomhmioaa.Arr
set_option linter.unusedVariables false
set_option linter.unusedSimpArgs false
abbrev En := Int × Int × Nat
def ent (p : En) : MapEntry := ⟨.int .i64 p.1, .int .i64 p.2.1, p.2.2⟩
def ents (L : List En) : Array MapEntry := (L.map ent).toArray
def getM : List En → Int → Option Int
  | [], _ => none
  | p :: r, k => if k = p.1 then some p.2.1 else getM r k
def findM : List En → Int → Nat → Option (Nat × Int)
  | [], _, _ => none
  | p :: r, k, i => if k = p.1 then some (i, p.2.1) else findM r k (i + 1)
theorem find_get (k : Int) : ∀ (L : List En) (i : Nat), (findM L k i).map (·.2) = getM L k
  | [], _ => rfl
  | p :: r, i => by
    unfold findM getM
    by_cases h : k = p.1
    · rw [if_pos h, if_pos h]; rfl
    · rw [if_neg h, if_neg h]; exact find_get k r (i + 1)
theorem findNow_eq (k : Int) : ∀ (L : List En) (i : Nat), Instr.findNow (.int .i64) (.int .i64 k) (L.map ent) i = some ((findM L k i).map fun p => (p.1, .int .i64 p.2))
  | [], _ => rfl
  | p :: r, i => by
    have h1 : Instr.sameNow (.int .i64) (.int .i64 k) (ent p).key = some (k == p.1) := by simp [Instr.sameNow, ent]
    rw [List.map_cons, Instr.findNow, h1]
    unfold findM
    by_cases h : k = p.1
    · rw [if_pos h, beq_iff_eq.2 h]; rfl
    · rw [if_neg h, beq_eq_false_iff_ne.2 h]; exact findNow_eq k r (i + 1)
theorem find_at (k : Int) : ∀ (L : List En) (i j : Nat) (v : Int), findM L k i = some (j, v) → ∃ b, i ≤ j ∧ L[j - i]? = some (k, v, b)
  | [], _, _, _, h => by cases h
  | p :: r, i, j, v, h => by
    unfold findM at h
    by_cases e : k = p.1
    · rw [if_pos e] at h
      cases h
      exact ⟨p.2.2, Nat.le_refl _, by rw [Nat.sub_self, e]; rfl⟩
    · rw [if_neg e] at h
      obtain ⟨b, h1, h2⟩ := find_at k r (i + 1) j v h
      refine ⟨b, by omega, ?_⟩
      rw [show j - i = (j - (i + 1)) + 1 by omega, List.getElem?_cons_succ]
      exact h2
theorem find_none (k : Int) : ∀ (L : List En) (i : Nat), findM L k i = none → ∀ p ∈ L, p.1 ≠ k
  | [], _, _, p, hp => by cases hp
  | q :: r, i, h, p, hp => by
    unfold findM at h
    by_cases e : k = q.1
    · rw [if_pos e] at h; cases h
    · rw [if_neg e] at h
      rcases List.mem_cons.1 hp with rfl | hp
      · exact fun e2 => e e2.symm
      · exact find_none k r (i + 1) h p hp
theorem get_none {k : Int} : ∀ {L : List En}, (∀ p ∈ L, p.1 ≠ k) → getM L k = none
  | [], _ => rfl
  | p :: r, h => by
    unfold getM
    rw [if_neg (fun e => h p (by simp) e.symm)]
    exact get_none (fun q hq => h q (by simp [hq]))
theorem get_append (k : Int) (v : Int) (c : Nat) (j : Int) : ∀ (L : List En), getM (L ++ [(k, v, c)]) j = match getM L j with | some x => some x | none => if j = k then some v else none
  | [] => by simp [getM]
  | p :: r => by
    rw [List.cons_append]
    unfold getM
    by_cases h : j = p.1
    · simp [h]
    · rw [if_neg h, if_neg h]; exact get_append k v c j r
/-- What a map's list is to be: no key twice, no stamp twice, all stamps below the clock. -/
structure MI (L : List En) (c : Nat) : Prop where
  keys : (L.map (·.1)).Nodup
  borns : (L.map (·.2.2)).Nodup
  below : ∀ p ∈ L, p.2.2 < c
theorem MI.nil (c : Nat) : MI [] c := ⟨List.nodup_nil, List.nodup_nil, fun _ h => by cases h⟩
theorem MI.push {L : List En} {c : Nat} (h : MI L c) {k : Int} (hk : ∀ p ∈ L, p.1 ≠ k) (v : Int) : MI (L ++ [(k, v, c)]) (c + 1) := by
  refine ⟨?_, ?_, fun p hp => ?_⟩
  · rw [List.map_append]
    refine List.nodup_append.2 ⟨h.keys, by simp, ?_⟩
    intro a ha b hb
    obtain ⟨p, hp, rfl⟩ := List.mem_map.1 ha
    simp at hb
    subst hb
    exact hk p hp
  · rw [List.map_append]
    refine List.nodup_append.2 ⟨h.borns, by simp, ?_⟩
    intro a ha b hb
    obtain ⟨p, hp, rfl⟩ := List.mem_map.1 ha
    simp at hb
    subst hb
    have := h.below p hp
    omega
  · rcases List.mem_append.1 hp with hp | hp
    · have := h.below p hp; omega
    · simp at hp; subst hp; simp
theorem map_modify_same {α β : Type} (f : α → β) (g : α → α) : ∀ (l : List α) (i : Nat) (x : α), l[i]? = some x → f (g x) = f x → (l.modify i g).map f = l.map f
  | [], i, x, h, _ => by simp at h
  | y :: r, 0, x, h, e => by simp at h; subst h; simp [e]
  | y :: r, i + 1, x, h, e => by simp at h; simp [map_modify_same f g r i x h e]
theorem MI.set {L : List En} {c : Nat} (h : MI L c) {i : Nat} {k : Int} {v0 : Int} {b : Nat} (hi : L[i]? = some (k, v0, b)) (v : Int) : MI (L.modify i fun p => (k, v, p.2.2)) c := by
  have h1 := map_modify_same (fun p : En => p.1) (fun p => (k, v, p.2.2)) L i _ hi rfl
  have h2 := map_modify_same (fun p : En => p.2.2) (fun p => (k, v, p.2.2)) L i _ hi rfl
  refine ⟨by rw [h1]; exact h.keys, by rw [h2]; exact h.borns, fun p hp => ?_⟩
  have : p.2.2 ∈ (L.modify i fun p => (k, v, p.2.2)).map (·.2.2) := List.mem_map.2 ⟨p, hp, rfl⟩
  rw [h2] at this
  obtain ⟨q, hq, e⟩ := List.mem_map.1 this
  rw [← e]
  exact h.below q hq
theorem get_modify (k : Int) (v : Int) (j : Int) : ∀ (L : List En) (i : Nat) (x : Int), findM L k 0 = some (i, x) → getM (L.modify i fun p => (k, v, p.2.2)) j = if j = k then some v else getM L j := by
  have gen : ∀ (L : List En) (s i : Nat) (x : Int), findM L k s = some (s + i, x) → getM (L.modify i fun p => (k, v, p.2.2)) j = if j = k then some v else getM L j := by
    intro L
    induction L with
    | nil => intro s i x h; cases h
    | cons p r ih =>
      intro s i x h
      unfold findM at h
      by_cases e : k = p.1
      · rw [if_pos e] at h
        have hi : i = 0 := by injection h with h; injection h with h1 h2; omega
        subst hi
        rw [List.modify_zero_cons]
        unfold getM
        simp only
        by_cases ej : j = k
        · rw [if_pos ej, if_pos ej]
        · rw [if_neg ej, if_neg ej, if_neg (by rw [← e]; exact ej)]
      · rw [if_neg e] at h
        obtain ⟨b, h1, _⟩ := find_at k r (s + 1) (s + i) x h
        obtain ⟨i', rfl⟩ : ∃ i', i = i' + 1 := ⟨i - 1, by omega⟩
        rw [show s + (i' + 1) = (s + 1) + i' by omega] at h
        have := ih (s + 1) i' x h
        rw [List.modify_succ_cons]
        unfold getM
        by_cases ej : j = p.1
        · rw [if_pos ej, if_pos ej, if_neg (by rw [ej]; exact fun e2 => e e2.symm)]
        · rw [if_neg ej, if_neg ej]; exact this
  intro L i x h
  exact gen L 0 i x (by rw [Nat.zero_add]; exact h)
theorem MI.erase {L : List En} {c : Nat} (h : MI L c) (i : Nat) : MI (L.eraseIdx i) c :=
  ⟨h.keys.sublist ((List.eraseIdx_sublist L i).map _), h.borns.sublist ((List.eraseIdx_sublist L i).map _), fun p hp => h.below p (List.mem_of_mem_eraseIdx hp)⟩
theorem get_of_mem : ∀ {L : List En} {c : Nat} {k : Int} {v : Int} {b : Nat}, (L.map (·.1)).Nodup → (k, v, b) ∈ L → getM L k = some v
  | p :: r, c, k, v, b, hn, h => by
    have hn' := List.nodup_cons.1 hn
    unfold getM
    rcases List.mem_cons.1 h with rfl | h
    · rw [if_pos rfl]
    · rw [if_neg]
      · exact get_of_mem (c := c) hn'.2 h
      · intro e
        exact hn'.1 (List.mem_map.2 ⟨(k, v, b), h, e⟩)
theorem get_erase (k : Int) (j : Int) : ∀ (L : List En) (i : Nat) (x : Int), (L.map (·.1)).Nodup → findM L k 0 = some (i, x) → getM (L.eraseIdx i) j = if j = k then none else getM L j := by
  have gen : ∀ (L : List En) (s i : Nat) (x : Int), (L.map (·.1)).Nodup → findM L k s = some (s + i, x) → getM (L.eraseIdx i) j = if j = k then none else getM L j := by
    intro L
    induction L with
    | nil => intro s i x _ h; cases h
    | cons p r ih =>
      intro s i x hn h
      have hn' := List.nodup_cons.1 hn
      unfold findM at h
      by_cases e : k = p.1
      · rw [if_pos e] at h
        have hi : i = 0 := by injection h with h; injection h with h1 h2; omega
        subst hi
        rw [List.eraseIdx_zero, List.tail_cons]
        conv => rhs; unfold getM
        by_cases ej : j = k
        · rw [if_pos ej]
          refine get_none (fun q hq e2 => hn'.1 ?_)
          exact List.mem_map.2 ⟨q, hq, e2.trans (ej.trans e)⟩
        · rw [if_neg ej, if_neg (by rw [← e]; exact ej)]
      · rw [if_neg e] at h
        obtain ⟨b, h1, _⟩ := find_at k r (s + 1) (s + i) x h
        obtain ⟨i', rfl⟩ : ∃ i', i = i' + 1 := ⟨i - 1, by omega⟩
        rw [show s + (i' + 1) = (s + 1) + i' by omega] at h
        have := ih (s + 1) i' x hn'.2 h
        rw [List.eraseIdx_cons_succ]
        unfold getM
        by_cases ej : j = p.1
        · rw [if_pos ej, if_pos ej, if_neg (by rw [ej]; exact fun e2 => e e2.symm)]
        · rw [if_neg ej, if_neg ej]; exact this
  intro L i x hn h
  exact gen L 0 i x hn (by rw [Nat.zero_add]; exact h)
/-- Block m is a map in which k has f k. -/
def MP (w : World) (m : Nat) (f : Int → Option Int) : Prop := ∃ L c, w.heap[m]? = some (.map (ents L) c) ∧ MI L c ∧ ∀ k, getM L k = f k
theorem MP.lt {w : World} {m : Nat} {f : Int → Option Int} (h : MP w m f) : m < w.heap.size := by
  obtain ⟨L, c, h, _⟩ := h
  rcases Nat.lt_or_ge m w.heap.size with h1 | h1
  · exact h1
  · simp [Array.getElem?_eq_none h1] at h
theorem MP.same {w w' : World} {m : Nat} {f : Int → Option Int} (h : MP w m f) (e : w'.heap[m]? = w.heap[m]?) : MP w' m f := by
  obtain ⟨L, c, h1, h2, h3⟩ := h
  exact ⟨L, c, e.trans h1, h2, h3⟩
theorem MP.made (w : World) : MP (w.alloc (.map #[] 0)) w.heap.size (fun _ => none) := ⟨[], 0, heap_alloc_new w _, MI.nil 0, fun _ => rfl⟩
section
variable {P : Program} {w : World} {t k e : TypeId} {m : Nat} {f : Int → Option Int}
theorem checkKey_int (hk : P.underlying k = some (.int .i64)) (w : World) (em : Bool) (i : Int) : (Instr.checkKey em 10000 k (.int .i64 i)).run P w = .ok () w :=
  run_checkKey hk (by simp [IsKey]) em 9999
theorem run_lookup_mp (ht : P.underlying t = some (.map k e)) (hk : P.underlying k = some (.int .i64)) (hz : ∀ w, (zeroValue e).run P w = .ok (.int .i64 0) w) (h : MP w m f) (i : Int) :
    (Instr.lookup t (.map (some m)) (.int .i64 i) true).run P w = .ok (.tuple #[.int .i64 ((f i).getD 0), .bool (f i).isSome]) w := by
  obtain ⟨L, c, h1, h2, h3⟩ := h
  have hf : (Instr.findKey k (.int .i64 i) (L.map ent)).run P w = .ok ((findM L i 0).map fun p => (p.1, .int .i64 p.2)) w := by
    simp [Instr.findKey, run_underlying hk, findNow_eq]
  have hg := find_get i L 0
  rw [h3] at hg
  cases hq : findM L i 0 with
  | none =>
    rw [hq] at hf hg
    have : f i = none := hg.symm
    simp [Instr.lookup, run_underlying ht, MapKept.run_getObj_map h1, checkKey_int hk, ents, hf, hz, this, Result.andThen]
  | some p =>
    rw [hq] at hf hg
    have : f i = some p.2 := hg.symm
    simp [Instr.lookup, run_underlying ht, MapKept.run_getObj_map h1, checkKey_int hk, ents, hf, hz, this, Result.andThen]
theorem setBlock_at (w : World) (m : Nat) (o : Obj) (h : m < w.heap.size) : (setBlock w m o).heap[m]? = some o := by
  show (w.heap.setIfInBounds m o)[m]? = _
  simp [h]
theorem setBlock_other (w : World) (m : Nat) (o : Obj) {j : Nat} (h : j ≠ m) : (setBlock w m o).heap[j]? = w.heap[j]? := by
  show (w.heap.setIfInBounds m o)[j]? = _
  simp [Ne.symm h]
theorem run_update_mp (ht : P.underlying t = some (.map k e)) (hk : P.underlying k = some (.int .i64)) (h : MP w m f) (i : Int) (s : Int) :
    ∃ o, (Instr.mapUpdate t (.map (some m)) (.int .i64 i) (.int .i64 s)).run P w = .ok () (setBlock w m o) ∧ MP (setBlock w m o) m (fun j => if j = i then some s else f j) := by
  have hlt := h.lt
  obtain ⟨L, c, h1, h2, h3⟩ := h
  have hf : (Instr.findKey k (.int .i64 i) (L.map ent)).run P w = .ok ((findM L i 0).map fun p => (p.1, .int .i64 p.2)) w := by
    simp [Instr.findKey, run_underlying hk, findNow_eq]
  cases hq : findM L i 0 with
  | none =>
    rw [hq] at hf
    have hn := find_none i L 0 hq
    refine ⟨.map (ents (L ++ [(i, s, c)])) (c + 1), ?_, L ++ [(i, s, c)], c + 1, setBlock_at w m _ hlt, h2.push hn s, fun j => ?_⟩
    · have e1 : (ents L).push (ent (i, s, c)) = ents (L ++ [(i, s, c)]) := by simp [ents]
      have e2 : (⟨.int .i64 i, .int .i64 s, c⟩ : MapEntry) = ent (i, s, c) := rfl
      have hl : (ents L).toList = L.map ent := by simp [ents]
      simp only [Instr.mapUpdate, Sem.run_bind, run_underlying ht, MapKept.run_getObj_map h1, checkKey_int hk, hl, hf, MapKept.run_setObj_map _ h1, Result.andThen, Option.map_none, e2, e1]
      rfl
    · rw [get_append, h3]
      show _ = if j = i then some s else f j
      by_cases ej : j = i
      · subst ej
        rw [← h3, get_none hn]
      · rw [if_neg ej, if_neg ej]
        cases f j <;> rfl
  | some p =>
    obtain ⟨a, x⟩ := p
    rw [hq] at hf
    obtain ⟨b, _, hb⟩ := find_at i L 0 a x hq
    rw [Nat.sub_zero] at hb
    refine ⟨.map (ents (L.modify a fun p => (i, s, p.2.2))) c, ?_, _, c, setBlock_at w m _ hlt, h2.set hb s, fun j => ?_⟩
    · have hl : (ents L).toList = L.map ent := by simp [ents]
      have ha : (ents L)[a]? = some (ent (i, x, b)) := by simp [ents, hb]
      have hks : (Instr.keyThatStays (.int .i64 i) (.int .i64 i)).run P w = .ok (.int .i64 i) w := by
        have e0 : Instr.sameBits 10000 (.int .i64 i) (.int .i64 i) = true := by simp [Instr.sameBits]
        unfold Instr.keyThatStays
        rw [e0]
        rfl
      have e1 : (ents L).modify a (fun e => { e with key := .int .i64 i, val := .int .i64 s }) = ents (L.modify a fun p => (i, s, p.2.2)) := by
        apply Array.toList_inj.1
        rw [Array.toList_modify]
        simp only [ents]
        apply List.ext_getElem?
        intro q
        simp only [List.getElem?_modify, List.getElem?_map]
        by_cases hqa : a = q
        · subst hqa; simp [hb, ent]
        · simp [hqa]
      have ek : (ent (i, x, b)).key = .int .i64 i := rfl
      simp only [Instr.mapUpdate, Sem.run_bind, run_underlying ht, MapKept.run_getObj_map h1, checkKey_int hk, hl, hf, Result.andThen, Option.map_some, ha, ek, Option.getD_some, hks, MapKept.run_setObj_map _ h1, e1]
      rfl
    · rw [get_modify i s j L a x hq, h3]
theorem run_delete_mp (ht : P.underlying t = some (.map k e)) (hk : P.underlying k = some (.int .i64)) (h : MP w m f) (i : Int) (ty : TypeId) :
    ∃ o, (Builtin.delete_ #[t, k] ty #[.map (some m), .int .i64 i]).run P w = .ok (.tuple #[]) (setBlock w m o) ∧ MP (setBlock w m o) m (fun j => if j = i then none else f j) := by
  have hlt := h.lt
  obtain ⟨L, c, h1, h2, h3⟩ := h
  have hf : (Instr.findKey k (.int .i64 i) (L.map ent)).run P w = .ok ((findM L i 0).map fun p => (p.1, .int .i64 p.2)) w := by
    simp [Instr.findKey, run_underlying hk, findNow_eq]
  have hl : (ents L).toList = L.map ent := by simp [ents]
  cases hq : findM L i 0 with
  | none =>
    rw [hq] at hf
    have hn := find_none i L 0 hq
    refine ⟨.map (ents L) c, ?_, L, c, setBlock_at w m _ hlt, h2, fun j => ?_⟩
    · simp only [Builtin.delete_, List.getElem?_toArray, List.getElem?_cons_zero, List.getElem?_cons_succ, Sem.run_bind, run_underlying ht, MapKept.run_getObj_map h1, checkKey_int hk, hl, hf, MapKept.run_setObj_map _ h1, Result.andThen, Option.map_none]
      rfl
    · show _ = if j = i then none else f j
      by_cases ej : j = i
      · subst ej; rw [if_pos rfl, get_none hn]
      · rw [if_neg ej, h3]
  | some p =>
    obtain ⟨a, x⟩ := p
    rw [hq] at hf
    refine ⟨.map (ents (L.eraseIdx a)) c, ?_, L.eraseIdx a, c, setBlock_at w m _ hlt, h2.erase a, fun j => ?_⟩
    · have e1 : (ents L).eraseIdxIfInBounds a = ents (L.eraseIdx a) := by
        apply Array.toList_inj.1
        rw [Array.toList_eraseIdxIfInBounds]
        simp [ents, map_eraseIdx]
      simp only [Builtin.delete_, List.getElem?_toArray, List.getElem?_cons_zero, List.getElem?_cons_succ, Sem.run_bind, run_underlying ht, MapKept.run_getObj_map h1, checkKey_int hk, hl, hf, MapKept.run_setObj_map _ h1, Result.andThen, Option.map_some, e1]
      rfl
    · rw [get_erase i j L a x h2.keys hq, h3]
end
end Go.Proofs.Ytcelfhoomhmioaa.Mi
set_option maxRecDepth 8192
namespace Go.Proofs.Ytcelfhoomhmioaa.RefPage
open Go Go.RowKit Go.Proofs.Ytcelfhoomhmioaa.Arr Go.Proofs.Ytcelfhoomhmioaa.Page Go.Proofs.YtcelfhoomhmioaaW.PrintWords Go.Proofs.YtcelfhoomhmioaaW.PrintMore
attribute [local go_sem] max2_int min2_int max_two min_two
set_option linter.unusedVariables false
theorem right_calls (p0 : Int) (p1 : ByteArray) (b : Bool) (hbb : b = decide (0 ≤ p0 ∧ p0 ≤ 2147483647 ∧ p1.size = 220)) (w : World) : Calls Try.prog 13 #[.agg #[.int .i64 p0, .string p1]] w (Post (.bool b) w) := by
  by_cases h0 : 0 ≤ p0
  · by_cases h1 : p0 ≤ 2147483647
    · have t0 : decide (0 ≤ p0) = true := by simpa using h0
      have t1 : decide (p0 ≤ 2147483647) = true := by simpa using h1
      have HB := Lib.hid hbb; clear hbb
      go_enter Try.func13, Try.ntmps13
      go_wp2
      go_ret
      have e : b = ((p1.size : Int) == 220) := by
        rw [HB.out, Bool.eq_iff_iff]; simp only [decide_eq_true_eq, beq_iff_eq]; omega
      subst e
      exact ⟨rfl, (Below.refl _ _).alloc (Nat.le_refl _) _⟩
    · have t0 : decide (0 ≤ p0) = true := by simpa using h0
      have t1 : decide (p0 ≤ 2147483647) = false := by simpa using h1
      obtain rfl : b = false := by rw [hbb]; simp; omega
      clear hbb
      go_enter Try.func13, Try.ntmps13
      go_wp2
      go_ret
      exact ⟨rfl, (Below.refl _ _).alloc (Nat.le_refl _) _⟩
  · have t0 : decide (0 ≤ p0) = false := by simpa using h0
    obtain rfl : b = false := by rw [hbb]; simp; omega
    clear hbb
    go_enter Try.func13, Try.ntmps13
    go_wp2
    go_ret
    exact ⟨rfl, (Below.refl _ _).alloc (Nat.le_refl _) _⟩
theorem splice_cut (t : ByteArray) (o : Nat) (s : ByteArray) (h : o + s.size ≤ t.size) : t.extract 0 o ++ s ++ t.extract (o + s.size) t.size = splice t o s := by
  have e1 : t.data.toList.length = t.size := by simp
  have e2 : s.data.toList.length = s.size := by simp
  apply ByteArray.ext
  apply Array.toList_inj.1
  have e : (t.extract 0 o ++ s ++ t.extract (o + s.size) t.size).data.toList = t.data.toList.take o ++ s.data.toList ++ (t.data.toList.drop (o + s.size)).take (t.size - (o + s.size)) := by
    simp
  have e3 : (t.data.toList.drop (o + s.size)).take (t.size - (o + s.size)) = t.data.toList.drop (o + s.size) := List.take_of_length_le (by rw [List.length_drop, e1]; exact Nat.le_refl _)
  rw [e, e3, splice]
theorem put_form (p0 : Int) (p1 : ByteArray) (off : Int) (s : ByteArray) (at_ : Int) (w : World) (hs : s.size ≤ 140737488351232) (h : ¬ (0 ≤ p0 ∧ p0 ≤ 2147483647 ∧ p1.size = 220)) :
    Calls Try.prog 40 #[.agg #[.int .i64 p0, .string p1], .int .i64 off, .string s, .int .i64 at_] w (Post (.tuple #[.agg #[.int .i64 0, .string ⟨#[]⟩], .int .i64 3]) w) := by
  have hr := right_calls p0 p1 false (by simp [h])
  clear h
  go_enter Try.func40, Try.ntmps40
  go_upto_region 1 with (fail)
  obtain ⟨b0, b1, hz, hB⟩ := two_blocks w (Obj.cells #[Value.int IntKind.i64 p0, Value.string p1] 35) (Obj.cells #[Value.int IntKind.i64 0, Value.string { data := #[] }] 35)
  generalize (w.alloc (Obj.cells #[Value.int IntKind.i64 p0, Value.string p1] 35)).alloc (Obj.cells #[Value.int IntKind.i64 0, Value.string { data := #[] }] 35) = W at *
  have c0 := blk_cell b0 0; have c1 := blk_cell b0 1
  have B0 := Lib.hid b0; have B1 := Lib.hid b1; have HZ := Lib.hid hz; clear b0 b1 hz
  go_wp2_with (go_at_call 13; refine (hr _).mono ?_; rintro e w' ⟨rfl, hb⟩; have b1 := blk_below B1.out hb; have d0 := blk_cell b1 0; have d1 := blk_cell b1 1; have f0 := blk_frozen b1 0; have f1 := blk_frozen b1 1; have B2 := Lib.hid b1; clear b1)
  have b2 := blk_set (blk_set B2.out 0 (.int .i64 0)) 1 (.string ⟨#[]⟩)
  refine bodyPost_ret (results_ct rfl _ _ _ _ _ _ _ rfl b2 Try.underlying35 rfl rfl) rfl ⟨rfl, ?_⟩
  have := HZ.out
  exact ((below_trans hB hb).setCell (by simp) _).setCell (by simp) _
theorem put_arg (p0 : Int) (p1 : ByteArray) (off : Int) (s : ByteArray) (at_ : Int) (w : World) (hs : s.size ≤ 140737488351232) (hp : 0 ≤ p0 ∧ p0 ≤ 2147483647 ∧ p1.size = 220) (h : at_ < 0 ∨ 2147483647 < at_) :
    Calls Try.prog 40 #[.agg #[.int .i64 p0, .string p1], .int .i64 off, .string s, .int .i64 at_] w (Post (.tuple #[.agg #[.int .i64 0, .string ⟨#[]⟩], .int .i64 1]) w) := by
  have hr := right_calls p0 p1 true (by simp [hp])
  clear hp
  rcases h with h | h
  all_goals
    first
    | (have t1 : decide (at_ < 0) = true := by simpa using h)
    | (have t1 : decide (at_ < 0) = false := by simp; omega
       have t2 : decide (2147483647 < at_) = true := by simpa using h)
    go_enter Try.func40, Try.ntmps40
    go_upto_region 1 with (fail)
    obtain ⟨b0, b1, hz, hB⟩ := two_blocks w (Obj.cells #[Value.int IntKind.i64 p0, Value.string p1] 35) (Obj.cells #[Value.int IntKind.i64 0, Value.string { data := #[] }] 35)
    generalize (w.alloc (Obj.cells #[Value.int IntKind.i64 p0, Value.string p1] 35)).alloc (Obj.cells #[Value.int IntKind.i64 0, Value.string { data := #[] }] 35) = W at *
    have c0 := blk_cell b0 0; have c1 := blk_cell b0 1
    have B0 := Lib.hid b0; have B1 := Lib.hid b1; have HZ := Lib.hid hz; clear b0 b1 hz
    go_wp2_with (go_at_call 13; refine (hr _).mono ?_; rintro e w' ⟨rfl, hb⟩; have b1 := blk_below B1.out hb; have d0 := blk_cell b1 0; have d1 := blk_cell b1 1; have f0 := blk_frozen b1 0; have f1 := blk_frozen b1 1; have B2 := Lib.hid b1; clear b1)
    have b2 := blk_set (blk_set B2.out 0 (.int .i64 0)) 1 (.string ⟨#[]⟩)
    refine bodyPost_ret (results_ct rfl _ _ _ _ _ _ _ rfl b2 Try.underlying35 rfl rfl) rfl ⟨rfl, ?_⟩
    have := HZ.out
    exact ((below_trans hB hb).setCell (by simp) _).setCell (by simp) _
theorem put_range (p0 : Int) (p1 : ByteArray) (off : Int) (s : ByteArray) (at_ : Int) (w : World) (hs : s.size ≤ 140737488351232) (hp : 0 ≤ p0 ∧ p0 ≤ 2147483647 ∧ p1.size = 220) (ha : 0 ≤ at_ ∧ at_ ≤ 2147483647) (h : off < 0 ∨ 220 < off ∨ (0 ≤ off ∧ off ≤ 220 ∧ 220 - off < s.size)) :
    Calls Try.prog 40 #[.agg #[.int .i64 p0, .string p1], .int .i64 off, .string s, .int .i64 at_] w (Post (.tuple #[.agg #[.int .i64 0, .string ⟨#[]⟩], .int .i64 2]) w) := by
  have hr := right_calls p0 p1 true (by simp [hp])
  clear hp
  have t1 : decide (at_ < 0) = false := by simp; omega
  have t2 : decide (2147483647 < at_) = false := by simp; omega
  clear ha
  rcases h with h | h | h
  · have t3 : decide (off < 0) = true := by simpa using h
    go_enter Try.func40, Try.ntmps40
    go_upto_region 1 with (fail)
    obtain ⟨b0, b1, hz, hB⟩ := two_blocks w (Obj.cells #[Value.int IntKind.i64 p0, Value.string p1] 35) (Obj.cells #[Value.int IntKind.i64 0, Value.string { data := #[] }] 35)
    generalize (w.alloc (Obj.cells #[Value.int IntKind.i64 p0, Value.string p1] 35)).alloc (Obj.cells #[Value.int IntKind.i64 0, Value.string { data := #[] }] 35) = W at *
    have c0 := blk_cell b0 0; have c1 := blk_cell b0 1
    have B0 := Lib.hid b0; have B1 := Lib.hid b1; have HZ := Lib.hid hz; clear b0 b1 hz
    go_wp2_with (go_at_call 13; refine (hr _).mono ?_; rintro e w' ⟨rfl, hb⟩; have b1 := blk_below B1.out hb; have d0 := blk_cell b1 0; have d1 := blk_cell b1 1; have f0 := blk_frozen b1 0; have f1 := blk_frozen b1 1; have B2 := Lib.hid b1; clear b1)
    have b2 := blk_set (blk_set B2.out 0 (.int .i64 0)) 1 (.string ⟨#[]⟩)
    refine bodyPost_ret (results_ct rfl _ _ _ _ _ _ _ rfl b2 Try.underlying35 rfl rfl) rfl ⟨rfl, ?_⟩
    have := HZ.out
    exact ((below_trans hB hb).setCell (by simp) _).setCell (by simp) _
  · have t3 : decide (off < 0) = false := by simp; omega
    have t4 : decide (220 < off) = true := by simpa using h
    go_enter Try.func40, Try.ntmps40
    go_upto_region 1 with (fail)
    obtain ⟨b0, b1, hz, hB⟩ := two_blocks w (Obj.cells #[Value.int IntKind.i64 p0, Value.string p1] 35) (Obj.cells #[Value.int IntKind.i64 0, Value.string { data := #[] }] 35)
    generalize (w.alloc (Obj.cells #[Value.int IntKind.i64 p0, Value.string p1] 35)).alloc (Obj.cells #[Value.int IntKind.i64 0, Value.string { data := #[] }] 35) = W at *
    have c0 := blk_cell b0 0; have c1 := blk_cell b0 1
    have B0 := Lib.hid b0; have B1 := Lib.hid b1; have HZ := Lib.hid hz; clear b0 b1 hz
    go_wp2_with (go_at_call 13; refine (hr _).mono ?_; rintro e w' ⟨rfl, hb⟩; have b1 := blk_below B1.out hb; have d0 := blk_cell b1 0; have d1 := blk_cell b1 1; have f0 := blk_frozen b1 0; have f1 := blk_frozen b1 1; have B2 := Lib.hid b1; clear b1)
    have b2 := blk_set (blk_set B2.out 0 (.int .i64 0)) 1 (.string ⟨#[]⟩)
    refine bodyPost_ret (results_ct rfl _ _ _ _ _ _ _ rfl b2 Try.underlying35 rfl rfl) rfl ⟨rfl, ?_⟩
    have := HZ.out
    exact ((below_trans hB hb).setCell (by simp) _).setCell (by simp) _
  · obtain ⟨h1, h2, h3⟩ := h
    have t3 : decide (off < 0) = false := by simp; omega
    have t4 : decide (220 < off) = false := by simp; omega
    have t5 : decide (220 - off < (s.size : Int)) = true := by simp; omega
    go_enter Try.func40, Try.ntmps40
    go_upto_region 1 with (fail)
    obtain ⟨b0, b1, hz, hB⟩ := two_blocks w (Obj.cells #[Value.int IntKind.i64 p0, Value.string p1] 35) (Obj.cells #[Value.int IntKind.i64 0, Value.string { data := #[] }] 35)
    generalize (w.alloc (Obj.cells #[Value.int IntKind.i64 p0, Value.string p1] 35)).alloc (Obj.cells #[Value.int IntKind.i64 0, Value.string { data := #[] }] 35) = W at *
    have c0 := blk_cell b0 0; have c1 := blk_cell b0 1
    have B0 := Lib.hid b0; have B1 := Lib.hid b1; have HZ := Lib.hid hz; clear b0 b1 hz
    go_wp2_with (go_at_call 13; refine (hr _).mono ?_; rintro e w' ⟨rfl, hb⟩; have b1 := blk_below B1.out hb; have d0 := blk_cell b1 0; have d1 := blk_cell b1 1; have f0 := blk_frozen b1 0; have f1 := blk_frozen b1 1; have B2 := Lib.hid b1; clear b1)
    have b2 := blk_set (blk_set B2.out 0 (.int .i64 0)) 1 (.string ⟨#[]⟩)
    refine bodyPost_ret (results_ct rfl _ _ _ _ _ _ _ rfl b2 Try.underlying35 rfl rfl) rfl ⟨rfl, ?_⟩
    have := HZ.out
    exact ((below_trans hB hb).setCell (by simp) _).setCell (by simp) _
theorem put_ok (p0 : Int) (p1 : ByteArray) (off : Nat) (s : ByteArray) (at_ : Int) (w : World) (hp : 0 ≤ p0 ∧ p0 ≤ 2147483647 ∧ p1.size = 220) (ha : 0 ≤ at_ ∧ at_ ≤ 2147483647) (h : off + s.size ≤ 220) :
    Calls Try.prog 40 #[.agg #[.int .i64 p0, .string p1], .int .i64 off, .string s, .int .i64 at_] w (Post (.tuple #[.agg #[.int .i64 at_, .string (splice p1 off s)], .int .i64 0]) w) := by
  have hr := right_calls p0 p1 true (by simp [hp])
  have h1 : p1.size = 220 := hp.2.2
  have hsp := splice_cut p1 off s (by omega)
  clear hp
  have t1 : decide (at_ < 0) = false := by simp; omega
  have t2 : decide (2147483647 < at_) = false := by simp; omega
  clear ha
  have t3 : decide ((off : Int) < 0) = false := by simp
  have t4 : decide ((220 : Int) < (off : Int)) = false := by simp; omega
  have t5 : decide (220 - (off : Int) < (s.size : Int)) = false := by simp; omega
  have H1 := Lib.hid h1; have HSP := Lib.hid hsp; clear h1 hsp
  go_enter Try.func40, Try.ntmps40
  go_upto_region 1 with (fail)
  obtain ⟨b0, b1, hz, hB⟩ := two_blocks w (Obj.cells #[Value.int IntKind.i64 p0, Value.string p1] 35) (Obj.cells #[Value.int IntKind.i64 0, Value.string { data := #[] }] 35)
  generalize (w.alloc (Obj.cells #[Value.int IntKind.i64 p0, Value.string p1] 35)).alloc (Obj.cells #[Value.int IntKind.i64 0, Value.string { data := #[] }] 35) = W at *
  have c0 := blk_cell b0 0; have c1 := blk_cell b0 1
  have B0 := Lib.hid b0; have B1 := Lib.hid b1; have HZ := Lib.hid hz; clear b0 b1 hz
  go_upto_region 7 with (go_at_call 13; refine (hr _).mono ?_; rintro e w' ⟨rfl, hb⟩; have b1 := blk_below B1.out hb; have d0 := blk_cell b1 0; have d1 := blk_cell b1 1; have f0 := blk_frozen b1 0; have f1 := blk_frozen b1 1; have B2 := Lib.hid b1; clear b1)
  have b0' := blk_below B0.out hb
  have c2 := blk_cell b0' 1
  have B0' := Lib.hid b0'
  have g1 : (off : Int) ≤ (p1.size : Int) := by have := H1.out; omega
  have g2 : (off : Int) + (s.size : Int) ≤ (p1.size : Int) := by have := H1.out; omega
  have g3 : off ≤ p1.size := by omega
  have g4 : ¬ 9223372036854775807 < off + s.size := by omega
  have g5 : (p1.size : Int) ≤ 220 := by have := H1.out; omega
  clear b0' B0 c0 c1
  go_region
  go_wp2
  have b2 := blk_set (blk_set B2.out 0 (.int .i64 at_)) 1 (.string (p1.extract 0 off ++ s ++ p1.extract (off + s.size) p1.size))
  refine bodyPost_ret (results_ct rfl _ _ _ _ _ _ _ rfl (blk_drew b2) Try.underlying35 rfl rfl) rfl ⟨?_, ?_⟩
  · rw [← HSP.out]; rfl
  · exact (((below_trans hB hb).setCell (by simp) _).setCell (by simp) _).drew
theorem put_calls (p0 : Int) (p1 : ByteArray) (off : Int) (s : ByteArray) (at_ : Int) (w : World) (hs : s.size ≤ 140737488351232) :
    Calls Try.prog 40 #[.agg #[.int .i64 p0, .string p1], .int .i64 off, .string s, .int .i64 at_] w (Post (.tuple #[.agg #[.int .i64 (putF p0 p1 off s at_).1, .string (putF p0 p1 off s at_).2.1], .int .i64 (putF p0 p1 off s at_).2.2]) w) := by
  unfold putF
  by_cases hp : 0 ≤ p0 ∧ p0 ≤ 2147483647 ∧ p1.size = 220
  · rw [if_pos hp]
    by_cases ha : 0 ≤ at_ ∧ at_ ≤ 2147483647
    · rw [if_pos ha]
      by_cases ho : 0 ≤ off ∧ off + s.size ≤ 220
      · rw [if_pos ho]
        obtain ⟨n, rfl⟩ := Int.eq_ofNat_of_zero_le ho.1
        exact put_ok p0 p1 n s at_ w hp ha (by omega)
      · rw [if_neg ho]
        exact put_range p0 p1 off s at_ w hs hp ha (by omega)
    · rw [if_neg ha]
      exact put_arg p0 p1 off s at_ w hs hp (by omega)
  · rw [if_neg hp]
    exact put_form p0 p1 off s at_ w hs hp
end Go.Proofs.Ytcelfhoomhmioaa.RefPage
-- Written by this session's xprint.py (the kit's print, with contracts proved by hand).
namespace Go.Proofs.Ytcelfhoomhmioaa.X4
open Go.RowKit Go.Proofs.YtcelfhoomhmioaaW.PrintWords Go.Proofs.YtcelfhoomhmioaaW.PrintLast Go.Proofs.YtcelfhoomhmioaaW.PrintMore
attribute [local go_sem] Page.fld_page_0 Page.fld_page_1 max2_int min2_int max_two min_two max_three min_three max_four min_four   -- for this text's walks alone
set_option linter.unusedVariables false
set_option linter.unusedSimpArgs false
def errW : Option Int → Value
  | none => .nilIface
  | some c => .iface 0 (.int .i64 c)
theorem errW_none : errW none = .nilIface := rfl
theorem errW_some (c : Int) : errW (some c) = .iface 0 (.int .i64 c) := rfl
-- the values' own types
structure S134 where
  f0 : Int
  f1 : Int
  f2 : Int
def z134 : S134 := ⟨(0 : Int), (0 : Int), (0 : Int)⟩
def k134 : Kd S134 := Kd.iso (Kd.pair (Kd.int .i64) (Kd.pair (Kd.int .i64) (Kd.int .i64))) (fun x : S134 => (x.f0, x.f1, x.f2))
theorem k134_open {w : World} {x : S134} {cs : List Value} (h : k134.K w x cs) : cs = [.int .i64 x.f0, .int .i64 x.f1, .int .i64 x.f2] := by
  obtain ⟨_, _, rfl, rfl, ⟨_, _, rfl, rfl, rfl⟩⟩ := h
  exact rfl
def rd_T134 (xs : List S134) (i : Int) : S134 := xs.getD i.toNat z134
theorem at_T134 {w : World} {A : Option Addr} {n : Nat} {xs : List S134} (h : Kd.C k134 w A n xs) (i : Int) (h0 : 0 ≤ i) (h1 : i < n) : ∃ ad , A = some ad ∧ w.cell? (ad.add (i.toNat * 3)) = some (.int .i64 (rd_T134 xs i).f0) ∧ w.cell? ⟨(ad.add (i.toNat * 3)).block, (ad.add (i.toNat * 3)).off + 1, none⟩ = some (.int .i64 (rd_T134 xs i).f1) ∧ w.cell? ⟨(ad.add (i.toNat * 3)).block, (ad.add (i.toNat * 3)).off + 2, none⟩ = some (.int .i64 (rd_T134 xs i).f2) := by
  obtain ⟨ad, c, e, _, hK, hc0⟩ := Kd.C_get h z134 i h0 h1
  have hc : ∀ j u, c[j]? = some u → w.cell? (ad.add (i.toNat * 3 + j)) = some u := hc0
  obtain rfl := k134_open hK
  exact ⟨ad, e, hc 0 _ rfl, by rw [← add_field _ _ 1 (by omega)]; exact hc 1 _ rfl, by rw [← add_field _ _ 2 (by omega)]; exact hc 2 _ rfl⟩
structure S70 where
  f0 : Int
  f1 : Int
def z70 : S70 := ⟨(0 : Int), (0 : Int)⟩
def k70 : Kd S70 := Kd.iso (Kd.pair (Kd.int .i64) (Kd.int .i64)) (fun x : S70 => (x.f0, x.f1))
theorem k70_open {w : World} {x : S70} {cs : List Value} (h : k70.K w x cs) : cs = [.int .i64 x.f0, .int .i64 x.f1] := by
  obtain ⟨_, _, rfl, rfl, rfl⟩ := h
  exact rfl
def rd_T70 (xs : List S70) (i : Int) : S70 := xs.getD i.toNat z70
theorem at_T70 {w : World} {A : Option Addr} {n : Nat} {xs : List S70} (h : Kd.C k70 w A n xs) (i : Int) (h0 : 0 ≤ i) (h1 : i < n) : ∃ ad , A = some ad ∧ w.cell? (ad.add (i.toNat * 2)) = some (.int .i64 (rd_T70 xs i).f0) ∧ w.cell? ⟨(ad.add (i.toNat * 2)).block, (ad.add (i.toNat * 2)).off + 1, none⟩ = some (.int .i64 (rd_T70 xs i).f1) := by
  obtain ⟨ad, c, e, _, hK, hc0⟩ := Kd.C_get h z70 i h0 h1
  have hc : ∀ j u, c[j]? = some u → w.cell? (ad.add (i.toNat * 2 + j)) = some u := hc0
  obtain rfl := k70_open hK
  exact ⟨ad, e, hc 0 _ rfl, by rw [← add_field _ _ 1 (by omega)]; exact hc 1 _ rfl⟩
structure S35 where
  f0 : Int
  f1 : ByteArray
def z35 : S35 := ⟨(0 : Int), (⟨#[]⟩ : ByteArray)⟩
def k35 : Kd S35 := Kd.iso (Kd.pair (Kd.int .i64) Kd.string) (fun x : S35 => (x.f0, x.f1))
theorem k35_open {w : World} {x : S35} {cs : List Value} (h : k35.K w x cs) : cs = [.int .i64 x.f0, .string x.f1] := by
  obtain ⟨_, _, rfl, rfl, rfl⟩ := h
  exact rfl
structure S39 where
  f0 : Int
  f1 : Int
  f2 : Int
  f3 : Int
  f4 : Int
  f5 : Int
  f6 : Int
  f7 : ByteArray
  f8 : ByteArray
  f9 : (List S134)
  f10 : (List S70)
def z39 : S39 := ⟨(0 : Int), (0 : Int), (0 : Int), (0 : Int), (0 : Int), (0 : Int), (0 : Int), (⟨#[]⟩ : ByteArray), (⟨#[]⟩ : ByteArray), ([] : List S134), ([] : List S70)⟩
def k39 : Kd S39 := Kd.iso (Kd.pair (Kd.int .i64) (Kd.pair (Kd.int .i64) (Kd.pair (Kd.int .i64) (Kd.pair (Kd.int .i64) (Kd.pair (Kd.int .i64) (Kd.pair (Kd.int .i64) (Kd.pair (Kd.int .i64) (Kd.pair Kd.string (Kd.pair Kd.string (Kd.pair (Kd.slice 134 k134) (Kd.slice 70 k70))))))))))) (fun x : S39 => (x.f0, x.f1, x.f2, x.f3, x.f4, x.f5, x.f6, x.f7, x.f8, x.f9, x.f10))
theorem k39_open {w : World} {x : S39} {cs : List Value} (h : k39.K w x cs) : ∃ A9 c9 A10 c10, cs = [.int .i64 x.f0, .int .i64 x.f1, .int .i64 x.f2, .int .i64 x.f3, .int .i64 x.f4, .int .i64 x.f5, .int .i64 x.f6, .string x.f7, .string x.f8, .slice A9 x.f9.length c9, .slice A10 x.f10.length c10] ∧ x.f9.length ≤ c9 ∧ k134.C w A9 x.f9.length x.f9 ∧ x.f10.length ≤ c10 ∧ k70.C w A10 x.f10.length x.f10 := by
  obtain ⟨_, _, rfl, rfl, ⟨_, _, rfl, rfl, ⟨_, _, rfl, rfl, ⟨_, _, rfl, rfl, ⟨_, _, rfl, rfl, ⟨_, _, rfl, rfl, ⟨_, _, rfl, rfl, ⟨_, _, rfl, rfl, ⟨_, _, rfl, rfl, ⟨_, _, rfl, ⟨A9, c9, rfl, l9, g9⟩, ⟨A10, c10, rfl, l10, g10⟩⟩⟩⟩⟩⟩⟩⟩⟩⟩⟩ := h
  exact ⟨A9, c9, A10, c10, rfl, l9, g9, l10, g10⟩
structure S41 where
  f0 : Int
  f1 : Int
  f2 : Int
  f3 : S35
  f4 : S39
def z41 : S41 := ⟨(0 : Int), (0 : Int), (0 : Int), z35, z39⟩
def k41 : Kd S41 := Kd.iso (Kd.pair (Kd.int .i64) (Kd.pair (Kd.int .i64) (Kd.pair (Kd.int .i64) (Kd.pair k35 k39)))) (fun x : S41 => (x.f0, x.f1, x.f2, x.f3, x.f4))
theorem k41_open {w : World} {x : S41} {cs : List Value} (h : k41.K w x cs) : ∃ A14 c14 A15 c15, cs = [.int .i64 x.f0, .int .i64 x.f1, .int .i64 x.f2, .int .i64 x.f3.f0, .string x.f3.f1, .int .i64 x.f4.f0, .int .i64 x.f4.f1, .int .i64 x.f4.f2, .int .i64 x.f4.f3, .int .i64 x.f4.f4, .int .i64 x.f4.f5, .int .i64 x.f4.f6, .string x.f4.f7, .string x.f4.f8, .slice A14 x.f4.f9.length c14, .slice A15 x.f4.f10.length c15] ∧ x.f4.f9.length ≤ c14 ∧ k134.C w A14 x.f4.f9.length x.f4.f9 ∧ x.f4.f10.length ≤ c15 ∧ k70.C w A15 x.f4.f10.length x.f4.f10 := by
  obtain ⟨_, _, rfl, rfl, ⟨_, _, rfl, rfl, ⟨_, _, rfl, rfl, ⟨_, _, rfl, s3, s5⟩⟩⟩⟩ := h
  obtain rfl := k35_open s3
  obtain ⟨A14, c14, A15, c15, rfl, l14, g14, l15, g15⟩ := k39_open s5
  exact ⟨A14, c14, A15, c15, rfl, l14, g14, l15, g15⟩
def rd_T41 (xs : List S41) (i : Int) : S41 := xs.getD i.toNat z41
theorem at_T41 {w : World} {A : Option Addr} {n : Nat} {xs : List S41} (h : Kd.C k41 w A n xs) (i : Int) (h0 : 0 ≤ i) (h1 : i < n) : ∃ ad A14 c14 A15 c15, A = some ad ∧ w.cell? (ad.add (i.toNat * 16)) = some (.int .i64 (rd_T41 xs i).f0) ∧ w.cell? ⟨(ad.add (i.toNat * 16)).block, (ad.add (i.toNat * 16)).off + 1, none⟩ = some (.int .i64 (rd_T41 xs i).f1) ∧ w.cell? ⟨(ad.add (i.toNat * 16)).block, (ad.add (i.toNat * 16)).off + 2, none⟩ = some (.int .i64 (rd_T41 xs i).f2) ∧ w.cell? ⟨(ad.add (i.toNat * 16)).block, (ad.add (i.toNat * 16)).off + 3, none⟩ = some (.int .i64 (rd_T41 xs i).f3.f0) ∧ w.cell? ⟨(ad.add (i.toNat * 16)).block, (ad.add (i.toNat * 16)).off + 4, none⟩ = some (.string (rd_T41 xs i).f3.f1) ∧ w.cell? ⟨(ad.add (i.toNat * 16)).block, (ad.add (i.toNat * 16)).off + 5, none⟩ = some (.int .i64 (rd_T41 xs i).f4.f0) ∧ w.cell? ⟨(ad.add (i.toNat * 16)).block, (ad.add (i.toNat * 16)).off + 6, none⟩ = some (.int .i64 (rd_T41 xs i).f4.f1) ∧ w.cell? ⟨(ad.add (i.toNat * 16)).block, (ad.add (i.toNat * 16)).off + 7, none⟩ = some (.int .i64 (rd_T41 xs i).f4.f2) ∧ w.cell? ⟨(ad.add (i.toNat * 16)).block, (ad.add (i.toNat * 16)).off + 8, none⟩ = some (.int .i64 (rd_T41 xs i).f4.f3) ∧ w.cell? ⟨(ad.add (i.toNat * 16)).block, (ad.add (i.toNat * 16)).off + 9, none⟩ = some (.int .i64 (rd_T41 xs i).f4.f4) ∧ w.cell? ⟨(ad.add (i.toNat * 16)).block, (ad.add (i.toNat * 16)).off + 10, none⟩ = some (.int .i64 (rd_T41 xs i).f4.f5) ∧ w.cell? ⟨(ad.add (i.toNat * 16)).block, (ad.add (i.toNat * 16)).off + 11, none⟩ = some (.int .i64 (rd_T41 xs i).f4.f6) ∧ w.cell? ⟨(ad.add (i.toNat * 16)).block, (ad.add (i.toNat * 16)).off + 12, none⟩ = some (.string (rd_T41 xs i).f4.f7) ∧ w.cell? ⟨(ad.add (i.toNat * 16)).block, (ad.add (i.toNat * 16)).off + 13, none⟩ = some (.string (rd_T41 xs i).f4.f8) ∧ w.cell? ⟨(ad.add (i.toNat * 16)).block, (ad.add (i.toNat * 16)).off + 14, none⟩ = some (.slice A14 (rd_T41 xs i).f4.f9.length c14) ∧ w.cell? ⟨(ad.add (i.toNat * 16)).block, (ad.add (i.toNat * 16)).off + 15, none⟩ = some (.slice A15 (rd_T41 xs i).f4.f10.length c15) ∧ (rd_T41 xs i).f4.f9.length ≤ c14 ∧ k134.C w A14 (rd_T41 xs i).f4.f9.length (rd_T41 xs i).f4.f9 ∧ (rd_T41 xs i).f4.f10.length ≤ c15 ∧ k70.C w A15 (rd_T41 xs i).f4.f10.length (rd_T41 xs i).f4.f10 := by
  obtain ⟨ad, c, e, _, hK, hc0⟩ := Kd.C_get h z41 i h0 h1
  have hc : ∀ j u, c[j]? = some u → w.cell? (ad.add (i.toNat * 16 + j)) = some u := hc0
  obtain ⟨A14, c14, A15, c15, rfl, l14, g14, l15, g15⟩ := k41_open hK
  exact ⟨ad, A14, c14, A15, c15, e, hc 0 _ rfl, by rw [← add_field _ _ 1 (by omega)]; exact hc 1 _ rfl, by rw [← add_field _ _ 2 (by omega)]; exact hc 2 _ rfl, by rw [← add_field _ _ 3 (by omega)]; exact hc 3 _ rfl, by rw [← add_field _ _ 4 (by omega)]; exact hc 4 _ rfl, by rw [← add_field _ _ 5 (by omega)]; exact hc 5 _ rfl, by rw [← add_field _ _ 6 (by omega)]; exact hc 6 _ rfl, by rw [← add_field _ _ 7 (by omega)]; exact hc 7 _ rfl, by rw [← add_field _ _ 8 (by omega)]; exact hc 8 _ rfl, by rw [← add_field _ _ 9 (by omega)]; exact hc 9 _ rfl, by rw [← add_field _ _ 10 (by omega)]; exact hc 10 _ rfl, by rw [← add_field _ _ 11 (by omega)]; exact hc 11 _ rfl, by rw [← add_field _ _ 12 (by omega)]; exact hc 12 _ rfl, by rw [← add_field _ _ 13 (by omega)]; exact hc 13 _ rfl, by rw [← add_field _ _ 14 (by omega)]; exact hc 14 _ rfl, by rw [← add_field _ _ 15 (by omega)]; exact hc 15 _ rfl, l14, g14, l15, g15⟩
end Go.Proofs.Ytcelfhoomhmioaa.X4
-- Written by this session's xprint.py (the kit's print, with contracts proved by hand).
namespace Go.Proofs.Ytcelfhoomhmioaa.X4
open Go.RowKit Go.Proofs.YtcelfhoomhmioaaW.PrintWords Go.Proofs.YtcelfhoomhmioaaW.PrintLast Go.Proofs.YtcelfhoomhmioaaW.PrintMore
attribute [local go_sem] Page.fld_page_0 Page.fld_page_1 max2_int min2_int max_two min_two max_three min_three max_four min_four   -- for this text's walks alone
set_option linter.unusedVariables false
set_option linter.unusedSimpArgs false
theorem eqA70 (d : Nat) (w : World) (x0 y0 : Int) (x1 y1 : Int) :
    (Op.equalIn (d + 2) 70 (.agg #[.int .i64 x0, .int .i64 x1]) (.agg #[.int .i64 y0, .int .i64 y1])).run Try.prog w = .ok (x0 == y0 && (x1 == y1)) w := by
  refine eqA_of Try.underlying70 (by kernel_rfl) ?_
  refine eqf_cons (by rfl) (by go_simp; rfl) (by go_simp; rfl) (by go_simp) ?_
  exact eqf_last (by rfl) (by go_simp; rfl) (by go_simp; rfl) (by go_simp)
end Go.Proofs.Ytcelfhoomhmioaa.X4
-- Written by this session's xprint.py (the kit's print, with contracts proved by hand).
namespace Go.Proofs.Ytcelfhoomhmioaa.X4
open Go.RowKit Go.Proofs.YtcelfhoomhmioaaW.PrintWords Go.Proofs.YtcelfhoomhmioaaW.PrintLast Go.Proofs.YtcelfhoomhmioaaW.PrintMore
attribute [local go_sem] Page.fld_page_0 Page.fld_page_1 max2_int min2_int max_two min_two max_three min_three max_four min_four   -- for this text's walks alone
set_option linter.unusedVariables false
set_option linter.unusedSimpArgs false
theorem eqA134 (d : Nat) (w : World) (x0 y0 : Int) (x1 y1 : Int) (x2 y2 : Int) :
    (Op.equalIn (d + 2) 134 (.agg #[.int .i64 x0, .int .i64 x1, .int .i64 x2]) (.agg #[.int .i64 y0, .int .i64 y1, .int .i64 y2])).run Try.prog w = .ok (x0 == y0 && (x1 == y1 && (x2 == y2))) w := by
  refine eqA_of Try.underlying134 (by kernel_rfl) ?_
  refine eqf_cons (by rfl) (by go_simp; rfl) (by go_simp; rfl) (by go_simp) ?_
  refine eqf_cons (by rfl) (by go_simp; rfl) (by go_simp; rfl) (by go_simp) ?_
  exact eqf_last (by rfl) (by go_simp; rfl) (by go_simp; rfl) (by go_simp)
end Go.Proofs.Ytcelfhoomhmioaa.X4
-- Written by this session's xprint.py (the kit's print, with contracts proved by hand).
namespace Go.Proofs.Ytcelfhoomhmioaa.X4
open Go.RowKit Go.Proofs.YtcelfhoomhmioaaW.PrintWords Go.Proofs.YtcelfhoomhmioaaW.PrintLast Go.Proofs.YtcelfhoomhmioaaW.PrintMore
attribute [local go_sem] Page.fld_page_0 Page.fld_page_1 max2_int min2_int max_two min_two max_three min_three max_four min_four   -- for this text's walks alone
set_option linter.unusedVariables false
set_option linter.unusedSimpArgs false
attribute [local go_sem high] eqA134
-- NOT PRINTED: function 19 (pool_New)
-- NOT PRINTED: function 35 (slab_Zero)
def bits_Mul64.f (a0 : Int) (a1 : Int) : Option (Int × Int) := some (IntKind.u64.wrap ((IntKind.u64.wrap ((IntKind.u64.wrap ((a0 / 4294967296) * (a1 / 4294967296))) + ((IntKind.u64.wrap ((IntKind.u64.wrap ((a0 / 4294967296) * (Go.bits .and .u64 a1 4294967295))) + ((IntKind.u64.wrap ((Go.bits .and .u64 a0 4294967295) * (Go.bits .and .u64 a1 4294967295))) / 4294967296))) / 4294967296))) + ((IntKind.u64.wrap ((Go.bits .and .u64 (IntKind.u64.wrap ((IntKind.u64.wrap ((a0 / 4294967296) * (Go.bits .and .u64 a1 4294967295))) + ((IntKind.u64.wrap ((Go.bits .and .u64 a0 4294967295) * (Go.bits .and .u64 a1 4294967295))) / 4294967296))) 4294967295) + (IntKind.u64.wrap ((Go.bits .and .u64 a0 4294967295) * (a1 / 4294967296))))) / 4294967296)), IntKind.u64.wrap (a0 * a1))
def bits_Mul.f (a0 : Int) (a1 : Int) : Option (Int × Int) := (bits_Mul64.f a0 a1).bind fun bt101 => (some (bt101.1, bt101.2))
-- NOT PRINTED: function 41 (slices_Repeat_string_string)
-- NOT PRINTED: function 25 (disk_New)
-- NOT PRINTED: function 42 (disk_Disk_Size)
def store_Sectors.f (a0 : Int) : Option (Int) := if a0 < 0 then (some 0) else (some (wrap64 (3 + (wrap64 (2 * a0)))))
-- NOT PRINTED: function 26 (store_New)
-- NOT PRINTED: function 44 (wal_lies)
-- NOT PRINTED: function 27 (wal_New)
-- NOT PRINTED: function 7 (careenlaw08_made)
-- NOT PRINTED: function 12 (pool_Pool_Holds)
-- NOT PRINTED: function 47 (disk_Disk_there)
-- NOT PRINTED: function 34 (disk_Disk_Read)
-- NOT PRINTED: function 36 (page_Empty)
-- NOT PRINTED: function 81 (slab_table)
-- NOT PRINTED: function 76 (slab_Sum)
-- NOT PRINTED: function 55 (slab_Pack)
def slab_get.l0 : Nat → ByteArray → Int → Int → Option (Int)
  | 0, _, _, _ => none
  | k + 1, x0, x2, x4 => if x4 < 4 then (if 0 ≤ x4 then (if x4 < (x0.size : Int) then (slab_get.l0 k x0 (Go.bits .or .u32 ((x2 * 256) % 4294967296) ((bt x0 x4) % 4294967296)) (wrap64 (x4 + 1))) else (none)) else (none)) else (some x2)
def slab_get.f (k : Nat) (a0 : ByteArray) : Option (Int) := slab_get.l0 k a0 0 0
-- NOT PRINTED: function 48 (slab_Unpack)
-- NOT PRINTED: function 37 (store_Store_read)
def page_Right.f (a0_0 : Int) (a0_1 : ByteArray) : Option (Bool) := if a0_0 ≥ 0 then (if a0_0 ≤ 2147483647 then (some ((a0_1.size : Int) == 220)) else (some false)) else (some false)
def page_Unpack.l0 : Nat → ByteArray → Int → Int → ByteArray → Option (Int × ByteArray × Int)
  | 0, _, _, _, _ => none
  | k + 1, x0, x13, x113000, x113001 => if x13 < 4 then (if 0 ≤ x13 then (if x13 < (x0.size : Int) then (page_Unpack.l0 k x0 (wrap64 (x13 + 1)) (Go.bits .or .i64 (wrap64 (x113000 * 256)) (wrap64 (bt x0 x13))) x113001) else (none)) else (none)) else ((page_Right.f x113000 x113001).bind fun t113 => (if t113 = true then (some (x113000, x113001, 0)) else (some (0, (⟨#[]⟩ : ByteArray), 3))))
def page_Unpack.f (k : Nat) (a0 : ByteArray) : Option (Int × ByteArray × Int) := if (a0.size : Int) = 224 then (if 4 ≤ (a0.size : Int) then (page_Unpack.l0 k a0 0 0 (a0.extract 4 a0.size)) else (none)) else (some (0, (⟨#[]⟩ : ByteArray), 3))
def page_Unpack.T7 : Bool × List (List Nat × List Nat) := (true, [([], []), ([0], [0]), ([1], [1]), ([], []), ([], []), ([3, 4], [3, 4]), ([5], [5]), ([2, 6], [2, 6]), ([0, 1, 2, 3, 4, 5, 6, 7], []), ([8, 7, 0, 1, 2, 3, 4, 5, 6, 7], [7, 8])])
def page_Unpack.B7 : List Nat := [0, 1, 3, 0, 0, 24, 56, 127, 255, 511]
-- NOT PRINTED: function 17 (store_Store_Read)
-- NOT PRINTED: function 30 (store_Store_Pages)
-- NOT PRINTED: function 24 (wal_Log_Safe)
-- NOT PRINTED: function 33 (pool_Pool_let)
-- NOT PRINTED: function 77 (disk_Disk_bears)
-- NOT PRINTED: function 56 (disk_Disk_Write)
-- NOT PRINTED: function 57 (wal_Log_place)
-- NOT PRINTED: function 78 (disk_Disk_settle)
-- NOT PRINTED: function 58 (disk_Disk_Sync)
-- NOT PRINTED: function 45 (wal_Log_Flush)
-- NOT PRINTED: function 59 (page_Pack)
-- NOT PRINTED: function 60 (store_caught)
-- NOT PRINTED: function 63 (store_must)
-- NOT PRINTED: function 62 (store_Store_put)
-- NOT PRINTED: function 61 (store_Store_both)
-- NOT PRINTED: function 46 (store_Store_Write)
-- NOT PRINTED: function 29 (pool_Pool_empty)
-- NOT PRINTED: function 31 (pool_Pool_room)
-- NOT PRINTED: function 11 (pool_Pool_Get)
-- NOT PRINTED: function 14 (pool_Pool_Put)
def careenref06_Empty.f  : Option (Int × ByteArray) := if 220 ≤ 281474976710656 then (some (0, strOfNums (List.replicate 220 0))) else (none)
-- NOT PRINTED: function 20 (pool_Pool_Dirty)
-- NOT PRINTED: function 8 (careenlaw08_awake)
def careenref04_Few.f (a0_0 : Int) (a0_1 : Int) (a0_2 : Int) (a0_3 : Int) (a0_4 : Int) (a0_5 : Int) (a0_6 : Int) (a0_7 : ByteArray) (a0_8 : ByteArray) (l0_9 : List (S134)) (l0_10 : List (S70)) : Option (Bool) := if (a0_7.size : Int) ≤ 300 then (if (a0_8.size : Int) ≤ 300 then (if (l0_9.length : Int) ≤ 50 then (some (decide ((l0_10.length : Int) ≤ 50))) else (some false)) else (some false)) else (some false)
set_option maxHeartbeats 8000000 in
set_option maxRecDepth 100000 in
theorem careenref04_Few.calls (a0_0 : Int) (a0_1 : Int) (a0_2 : Int) (a0_3 : Int) (a0_4 : Int) (a0_5 : Int) (a0_6 : Int) (a0_7 : ByteArray) (a0_8 : ByteArray) (A0_9 : Option Addr) (c0_9 : Nat) (l0_9 : List (S134)) (A0_10 : Option Addr) (c0_10 : Nat) (l0_10 : List (S70)) (r : Bool) (w : World) (hr0_9 : Kd.C k134 w A0_9 l0_9.length l0_9) (hc0_9 : l0_9.length ≤ c0_9) (hr0_10 : Kd.C k70 w A0_10 l0_10.length l0_10) (hc0_10 : l0_10.length ≤ c0_10) (h : careenref04_Few.f a0_0 a0_1 a0_2 a0_3 a0_4 a0_5 a0_6 a0_7 a0_8 l0_9 l0_10 = some r) :
    Calls Try.prog 28 #[.agg #[.int .i64 a0_0, .int .i64 a0_1, .int .i64 a0_2, .int .i64 a0_3, .int .i64 a0_4, .int .i64 a0_5, .int .i64 a0_6, .string a0_7, .string a0_8, .slice A0_9 l0_9.length c0_9, .slice A0_10 l0_10.length c0_10]] w fun e w' => e = .returned (.bool r) ∧ Below w.heap.size w w' := by
  have hu39 := Try.underlying39
  have HR0_9 := Aside0.mk hr0_9
  have HC0_9 := Aside0.mk hc0_9
  clear hr0_9 hc0_9
  have HR0_10 := Aside0.mk hr0_10
  have HC0_10 := Aside0.mk hc0_10
  clear hr0_10 hc0_10
  have HB := Aside0.mk (Below.refl w.heap.size w)
  have H : (if (a0_7.size : Int) ≤ 300 then (if (a0_8.size : Int) ≤ 300 then (if (l0_9.length : Int) ≤ 50 then (some (decide ((l0_10.length : Int) ≤ 50))) else (some false)) else (some false)) else (some false)) = some r := h
  clear h
  by_cases c2 : (a0_7.size : Int) ≤ 300
  · rw [if_pos c2] at H
    have c2b0 : decide ((a0_7.size : Int) ≤ 300) = true := decide_eq_true c2
    have c2b1 : decide (a0_7.size ≤ 300) = true := decide_eq_true (by omega)
    clear c2
    by_cases c3 : (a0_8.size : Int) ≤ 300
    · rw [if_pos c3] at H
      have c3b0 : decide ((a0_8.size : Int) ≤ 300) = true := decide_eq_true c3
      have c3b1 : decide (a0_8.size ≤ 300) = true := decide_eq_true (by omega)
      clear c3
      by_cases c4 : (l0_9.length : Int) ≤ 50
      · rw [if_pos c4] at H
        have c4b0 : decide ((l0_9.length : Int) ≤ 50) = true := decide_eq_true c4
        have c4b1 : decide (l0_9.length ≤ 50) = true := decide_eq_true (by omega)
        clear c4
        obtain rfl := Option.some.inj H
        go_enter Try.func28, Try.ntmps28
        go_wp2_with (first | ((with_reducible refine gate_dst (N := 1) rfl ?_); (try (refine gate_guard (by rfl) ?_; dsimp only)); refine box_event ?hg (N := 1) ?hd (cs := #[.int .i64 a0_0, .int .i64 a0_1, .int .i64 a0_2, .int .i64 a0_3, .int .i64 a0_4, .int .i64 a0_5, .int .i64 a0_6, .string a0_7, .string a0_8, .slice A0_9 l0_9.length c0_9, .slice A0_10 l0_10.length c0_10]) (t := 39) ?hr ?_; (case hd => rfl); (case hg => rfl); (case hr => first | (go_simp; done) | (go_simp; rfl)); intro gb120 hg w5 hbox hb; have n0_ := Aside0.mk (below_step (by repeat (first | (with_reducible first | exact HB.out | apply below_alloc | apply pw_below_drewN | apply below_drew1) | exact HB.out)) hb); have n1_ := Aside0.mk (hbox); have n2_ := Aside0.mk ((by rw [hg]; exact (below_size (by repeat (first | (with_reducible first | exact HB.out | apply below_alloc | apply pw_below_drewN | apply below_drew1) | exact HB.out))) : w.heap.size ≤ gb120)); have n3_ := Aside0.mk ((by rw [hg]; exact (below_size (by repeat (first | (with_reducible first | exact HB.out | apply below_alloc | apply pw_below_drewN | apply below_drew1) | exact HB.out))) : w.heap.size ≤ gb120)); clear HB; have HB := n0_; have BK120 := n1_; have GW120 := n2_; have GE120 := n3_; clear n0_ n1_ n2_ n3_; clear hb hbox hg; have hcz6_0 : w5.cell? ⟨gb120, 0, none⟩ = some (.int .i64 a0_0) := (blk_cell BK120.out 0).trans rfl; have hcz6_1 : w5.cell? ⟨gb120, 1, none⟩ = some (.int .i64 a0_1) := (blk_cell BK120.out 1).trans rfl; have hcz6_2 : w5.cell? ⟨gb120, 2, none⟩ = some (.int .i64 a0_2) := (blk_cell BK120.out 2).trans rfl; have hcz6_3 : w5.cell? ⟨gb120, 3, none⟩ = some (.int .i64 a0_3) := (blk_cell BK120.out 3).trans rfl; have hcz6_4 : w5.cell? ⟨gb120, 4, none⟩ = some (.int .i64 a0_4) := (blk_cell BK120.out 4).trans rfl; have hcz6_5 : w5.cell? ⟨gb120, 5, none⟩ = some (.int .i64 a0_5) := (blk_cell BK120.out 5).trans rfl; have hcz6_6 : w5.cell? ⟨gb120, 6, none⟩ = some (.int .i64 a0_6) := (blk_cell BK120.out 6).trans rfl; have hcz6_7 : w5.cell? ⟨gb120, 7, none⟩ = some (.string a0_7) := (blk_cell BK120.out 7).trans rfl; have hcz6_8 : w5.cell? ⟨gb120, 8, none⟩ = some (.string a0_8) := (blk_cell BK120.out 8).trans rfl; have hcz6_9 : w5.cell? ⟨gb120, 9, none⟩ = some (.slice A0_9 l0_9.length c0_9) := (blk_cell BK120.out 9).trans rfl; have hcz6_10 : w5.cell? ⟨gb120, 10, none⟩ = some (.slice A0_10 l0_10.length c0_10) := (blk_cell BK120.out 10).trans rfl; have hfz6_0 := blk_frozen BK120.out 0; have hfz6_1 := blk_frozen BK120.out 1; have hfz6_2 := blk_frozen BK120.out 2; have hfz6_3 := blk_frozen BK120.out 3; have hfz6_4 := blk_frozen BK120.out 4; have hfz6_5 := blk_frozen BK120.out 5; have hfz6_6 := blk_frozen BK120.out 6; have hfz6_7 := blk_frozen BK120.out 7; have hfz6_8 := blk_frozen BK120.out 8; have hfz6_9 := blk_frozen BK120.out 9; have hfz6_10 := blk_frozen BK120.out 10))
        go_ret
        exact ⟨by first | rfl | (simp [errW_none, errW_some] <;> rfl) | (simp [*, errW_none, errW_some] <;> rfl), by repeat (first | (with_reducible first | exact HB.out | apply below_alloc | apply pw_below_drewN | apply below_drew1 | refine below_set ?_ GE120.out) | exact HB.out)⟩
      · rw [if_neg c4] at H
        have c4b0 : decide ((l0_9.length : Int) ≤ 50) = false := decide_eq_false c4
        have c4b1 : decide (l0_9.length ≤ 50) = false := decide_eq_false (by omega)
        clear c4
        obtain rfl := Option.some.inj H
        go_enter Try.func28, Try.ntmps28
        go_wp2_with (first | ((with_reducible refine gate_dst (N := 1) rfl ?_); (try (refine gate_guard (by rfl) ?_; dsimp only)); refine box_event ?hg (N := 1) ?hd (cs := #[.int .i64 a0_0, .int .i64 a0_1, .int .i64 a0_2, .int .i64 a0_3, .int .i64 a0_4, .int .i64 a0_5, .int .i64 a0_6, .string a0_7, .string a0_8, .slice A0_9 l0_9.length c0_9, .slice A0_10 l0_10.length c0_10]) (t := 39) ?hr ?_; (case hd => rfl); (case hg => rfl); (case hr => first | (go_simp; done) | (go_simp; rfl)); intro gb120 hg w7 hbox hb; have n0_ := Aside0.mk (below_step (by repeat (first | (with_reducible first | exact HB.out | apply below_alloc | apply pw_below_drewN | apply below_drew1) | exact HB.out)) hb); have n1_ := Aside0.mk (hbox); have n2_ := Aside0.mk ((by rw [hg]; exact (below_size (by repeat (first | (with_reducible first | exact HB.out | apply below_alloc | apply pw_below_drewN | apply below_drew1) | exact HB.out))) : w.heap.size ≤ gb120)); have n3_ := Aside0.mk ((by rw [hg]; exact (below_size (by repeat (first | (with_reducible first | exact HB.out | apply below_alloc | apply pw_below_drewN | apply below_drew1) | exact HB.out))) : w.heap.size ≤ gb120)); clear HB; have HB := n0_; have BK120 := n1_; have GW120 := n2_; have GE120 := n3_; clear n0_ n1_ n2_ n3_; clear hb hbox hg; have hcz8_0 : w7.cell? ⟨gb120, 0, none⟩ = some (.int .i64 a0_0) := (blk_cell BK120.out 0).trans rfl; have hcz8_1 : w7.cell? ⟨gb120, 1, none⟩ = some (.int .i64 a0_1) := (blk_cell BK120.out 1).trans rfl; have hcz8_2 : w7.cell? ⟨gb120, 2, none⟩ = some (.int .i64 a0_2) := (blk_cell BK120.out 2).trans rfl; have hcz8_3 : w7.cell? ⟨gb120, 3, none⟩ = some (.int .i64 a0_3) := (blk_cell BK120.out 3).trans rfl; have hcz8_4 : w7.cell? ⟨gb120, 4, none⟩ = some (.int .i64 a0_4) := (blk_cell BK120.out 4).trans rfl; have hcz8_5 : w7.cell? ⟨gb120, 5, none⟩ = some (.int .i64 a0_5) := (blk_cell BK120.out 5).trans rfl; have hcz8_6 : w7.cell? ⟨gb120, 6, none⟩ = some (.int .i64 a0_6) := (blk_cell BK120.out 6).trans rfl; have hcz8_7 : w7.cell? ⟨gb120, 7, none⟩ = some (.string a0_7) := (blk_cell BK120.out 7).trans rfl; have hcz8_8 : w7.cell? ⟨gb120, 8, none⟩ = some (.string a0_8) := (blk_cell BK120.out 8).trans rfl; have hcz8_9 : w7.cell? ⟨gb120, 9, none⟩ = some (.slice A0_9 l0_9.length c0_9) := (blk_cell BK120.out 9).trans rfl; have hcz8_10 : w7.cell? ⟨gb120, 10, none⟩ = some (.slice A0_10 l0_10.length c0_10) := (blk_cell BK120.out 10).trans rfl; have hfz8_0 := blk_frozen BK120.out 0; have hfz8_1 := blk_frozen BK120.out 1; have hfz8_2 := blk_frozen BK120.out 2; have hfz8_3 := blk_frozen BK120.out 3; have hfz8_4 := blk_frozen BK120.out 4; have hfz8_5 := blk_frozen BK120.out 5; have hfz8_6 := blk_frozen BK120.out 6; have hfz8_7 := blk_frozen BK120.out 7; have hfz8_8 := blk_frozen BK120.out 8; have hfz8_9 := blk_frozen BK120.out 9; have hfz8_10 := blk_frozen BK120.out 10))
        go_ret
        exact ⟨by first | rfl | (simp [errW_none, errW_some] <;> rfl) | (simp [*, errW_none, errW_some] <;> rfl), by repeat (first | (with_reducible first | exact HB.out | apply below_alloc | apply pw_below_drewN | apply below_drew1 | refine below_set ?_ GE120.out) | exact HB.out)⟩
    · rw [if_neg c3] at H
      have c3b0 : decide ((a0_8.size : Int) ≤ 300) = false := decide_eq_false c3
      have c3b1 : decide (a0_8.size ≤ 300) = false := decide_eq_false (by omega)
      clear c3
      obtain rfl := Option.some.inj H
      go_enter Try.func28, Try.ntmps28
      go_wp2_with (first | ((with_reducible refine gate_dst (N := 1) rfl ?_); (try (refine gate_guard (by rfl) ?_; dsimp only)); refine box_event ?hg (N := 1) ?hd (cs := #[.int .i64 a0_0, .int .i64 a0_1, .int .i64 a0_2, .int .i64 a0_3, .int .i64 a0_4, .int .i64 a0_5, .int .i64 a0_6, .string a0_7, .string a0_8, .slice A0_9 l0_9.length c0_9, .slice A0_10 l0_10.length c0_10]) (t := 39) ?hr ?_; (case hd => rfl); (case hg => rfl); (case hr => first | (go_simp; done) | (go_simp; rfl)); intro gb120 hg w9 hbox hb; have n0_ := Aside0.mk (below_step (by repeat (first | (with_reducible first | exact HB.out | apply below_alloc | apply pw_below_drewN | apply below_drew1) | exact HB.out)) hb); have n1_ := Aside0.mk (hbox); have n2_ := Aside0.mk ((by rw [hg]; exact (below_size (by repeat (first | (with_reducible first | exact HB.out | apply below_alloc | apply pw_below_drewN | apply below_drew1) | exact HB.out))) : w.heap.size ≤ gb120)); have n3_ := Aside0.mk ((by rw [hg]; exact (below_size (by repeat (first | (with_reducible first | exact HB.out | apply below_alloc | apply pw_below_drewN | apply below_drew1) | exact HB.out))) : w.heap.size ≤ gb120)); clear HB; have HB := n0_; have BK120 := n1_; have GW120 := n2_; have GE120 := n3_; clear n0_ n1_ n2_ n3_; clear hb hbox hg; have hcz10_0 : w9.cell? ⟨gb120, 0, none⟩ = some (.int .i64 a0_0) := (blk_cell BK120.out 0).trans rfl; have hcz10_1 : w9.cell? ⟨gb120, 1, none⟩ = some (.int .i64 a0_1) := (blk_cell BK120.out 1).trans rfl; have hcz10_2 : w9.cell? ⟨gb120, 2, none⟩ = some (.int .i64 a0_2) := (blk_cell BK120.out 2).trans rfl; have hcz10_3 : w9.cell? ⟨gb120, 3, none⟩ = some (.int .i64 a0_3) := (blk_cell BK120.out 3).trans rfl; have hcz10_4 : w9.cell? ⟨gb120, 4, none⟩ = some (.int .i64 a0_4) := (blk_cell BK120.out 4).trans rfl; have hcz10_5 : w9.cell? ⟨gb120, 5, none⟩ = some (.int .i64 a0_5) := (blk_cell BK120.out 5).trans rfl; have hcz10_6 : w9.cell? ⟨gb120, 6, none⟩ = some (.int .i64 a0_6) := (blk_cell BK120.out 6).trans rfl; have hcz10_7 : w9.cell? ⟨gb120, 7, none⟩ = some (.string a0_7) := (blk_cell BK120.out 7).trans rfl; have hcz10_8 : w9.cell? ⟨gb120, 8, none⟩ = some (.string a0_8) := (blk_cell BK120.out 8).trans rfl; have hcz10_9 : w9.cell? ⟨gb120, 9, none⟩ = some (.slice A0_9 l0_9.length c0_9) := (blk_cell BK120.out 9).trans rfl; have hcz10_10 : w9.cell? ⟨gb120, 10, none⟩ = some (.slice A0_10 l0_10.length c0_10) := (blk_cell BK120.out 10).trans rfl; have hfz10_0 := blk_frozen BK120.out 0; have hfz10_1 := blk_frozen BK120.out 1; have hfz10_2 := blk_frozen BK120.out 2; have hfz10_3 := blk_frozen BK120.out 3; have hfz10_4 := blk_frozen BK120.out 4; have hfz10_5 := blk_frozen BK120.out 5; have hfz10_6 := blk_frozen BK120.out 6; have hfz10_7 := blk_frozen BK120.out 7; have hfz10_8 := blk_frozen BK120.out 8; have hfz10_9 := blk_frozen BK120.out 9; have hfz10_10 := blk_frozen BK120.out 10))
      go_ret
      exact ⟨by first | rfl | (simp [errW_none, errW_some] <;> rfl) | (simp [*, errW_none, errW_some] <;> rfl), by repeat (first | (with_reducible first | exact HB.out | apply below_alloc | apply pw_below_drewN | apply below_drew1 | refine below_set ?_ GE120.out) | exact HB.out)⟩
  · rw [if_neg c2] at H
    have c2b0 : decide ((a0_7.size : Int) ≤ 300) = false := decide_eq_false c2
    have c2b1 : decide (a0_7.size ≤ 300) = false := decide_eq_false (by omega)
    clear c2
    obtain rfl := Option.some.inj H
    go_enter Try.func28, Try.ntmps28
    go_wp2_with (first | ((with_reducible refine gate_dst (N := 1) rfl ?_); (try (refine gate_guard (by rfl) ?_; dsimp only)); refine box_event ?hg (N := 1) ?hd (cs := #[.int .i64 a0_0, .int .i64 a0_1, .int .i64 a0_2, .int .i64 a0_3, .int .i64 a0_4, .int .i64 a0_5, .int .i64 a0_6, .string a0_7, .string a0_8, .slice A0_9 l0_9.length c0_9, .slice A0_10 l0_10.length c0_10]) (t := 39) ?hr ?_; (case hd => rfl); (case hg => rfl); (case hr => first | (go_simp; done) | (go_simp; rfl)); intro gb120 hg w11 hbox hb; have n0_ := Aside0.mk (below_step (by repeat (first | (with_reducible first | exact HB.out | apply below_alloc | apply pw_below_drewN | apply below_drew1) | exact HB.out)) hb); have n1_ := Aside0.mk (hbox); have n2_ := Aside0.mk ((by rw [hg]; exact (below_size (by repeat (first | (with_reducible first | exact HB.out | apply below_alloc | apply pw_below_drewN | apply below_drew1) | exact HB.out))) : w.heap.size ≤ gb120)); have n3_ := Aside0.mk ((by rw [hg]; exact (below_size (by repeat (first | (with_reducible first | exact HB.out | apply below_alloc | apply pw_below_drewN | apply below_drew1) | exact HB.out))) : w.heap.size ≤ gb120)); clear HB; have HB := n0_; have BK120 := n1_; have GW120 := n2_; have GE120 := n3_; clear n0_ n1_ n2_ n3_; clear hb hbox hg; have hcz12_0 : w11.cell? ⟨gb120, 0, none⟩ = some (.int .i64 a0_0) := (blk_cell BK120.out 0).trans rfl; have hcz12_1 : w11.cell? ⟨gb120, 1, none⟩ = some (.int .i64 a0_1) := (blk_cell BK120.out 1).trans rfl; have hcz12_2 : w11.cell? ⟨gb120, 2, none⟩ = some (.int .i64 a0_2) := (blk_cell BK120.out 2).trans rfl; have hcz12_3 : w11.cell? ⟨gb120, 3, none⟩ = some (.int .i64 a0_3) := (blk_cell BK120.out 3).trans rfl; have hcz12_4 : w11.cell? ⟨gb120, 4, none⟩ = some (.int .i64 a0_4) := (blk_cell BK120.out 4).trans rfl; have hcz12_5 : w11.cell? ⟨gb120, 5, none⟩ = some (.int .i64 a0_5) := (blk_cell BK120.out 5).trans rfl; have hcz12_6 : w11.cell? ⟨gb120, 6, none⟩ = some (.int .i64 a0_6) := (blk_cell BK120.out 6).trans rfl; have hcz12_7 : w11.cell? ⟨gb120, 7, none⟩ = some (.string a0_7) := (blk_cell BK120.out 7).trans rfl; have hcz12_8 : w11.cell? ⟨gb120, 8, none⟩ = some (.string a0_8) := (blk_cell BK120.out 8).trans rfl; have hcz12_9 : w11.cell? ⟨gb120, 9, none⟩ = some (.slice A0_9 l0_9.length c0_9) := (blk_cell BK120.out 9).trans rfl; have hcz12_10 : w11.cell? ⟨gb120, 10, none⟩ = some (.slice A0_10 l0_10.length c0_10) := (blk_cell BK120.out 10).trans rfl; have hfz12_0 := blk_frozen BK120.out 0; have hfz12_1 := blk_frozen BK120.out 1; have hfz12_2 := blk_frozen BK120.out 2; have hfz12_3 := blk_frozen BK120.out 3; have hfz12_4 := blk_frozen BK120.out 4; have hfz12_5 := blk_frozen BK120.out 5; have hfz12_6 := blk_frozen BK120.out 6; have hfz12_7 := blk_frozen BK120.out 7; have hfz12_8 := blk_frozen BK120.out 8; have hfz12_9 := blk_frozen BK120.out 9; have hfz12_10 := blk_frozen BK120.out 10))
    go_ret
    exact ⟨by first | rfl | (simp [errW_none, errW_some] <;> rfl) | (simp [*, errW_none, errW_some] <;> rfl), by repeat (first | (with_reducible first | exact HB.out | apply below_alloc | apply pw_below_drewN | apply below_drew1 | refine below_set ?_ GE120.out) | exact HB.out)⟩
-- NOT PRINTED: function 10 (pool_Pool_Evict)
-- NOT PRINTED: function 49 (record_caught)
-- NOT PRINTED: function 50 (record_must)
end Go.Proofs.Ytcelfhoomhmioaa.X4
set_option maxRecDepth 8192
namespace Go.Proofs.Ytcelfhoomhmioaa.Rp
open Go Go.Proofs.Ytcelfhoomhmioaa.X4
def b8 (n : Int) : UInt8 := UInt8.ofNat (n % 256).toNat
theorem b8_nat (n : Int) : ((b8 n).toNat : Int) = n % 256 := by
  unfold b8
  rw [UInt8.toNat_ofNat']
  omega
def four (n : Int) : List UInt8 := [b8 (n / 16777216), b8 (n / 65536), b8 (n / 256), b8 n]
def isNum (n : Int) : Bool := decide (0 ≤ n) && decide (n ≤ 2147483647)
theorem isNum_iff (n : Int) : isNum n = true ↔ 0 ≤ n ∧ n ≤ 2147483647 := by simp [isNum]
def numP (l : List Int) : Option (List UInt8) := if l.all isNum then some (l.flatMap four) else none
def smallP (n m : Int) : Option (List UInt8) := if 0 ≤ n ∧ n ≤ m then some [b8 n] else none
def txnP (n : Int) : Option (List UInt8) := if 1 ≤ n then numP [n] else none
def cat (a b : Option (List UInt8)) : Option (List UInt8) := a.bind fun x => b.map (x ++ ·)
theorem cat_none (a : Option (List UInt8)) : cat a none = none := by cases a <;> rfl
def placeP (p o n : Int) : Option (List UInt8) := if 1 ≤ n then cat (smallP p 7) (cat (smallP o (220 - min n 220)) (smallP n 16)) else none
theorem small_len {n m : Int} {bs : List UInt8} (h : smallP n m = some bs) : bs.length = 1 := by
  unfold smallP at h
  split at h
  · cases h; rfl
  · cases h
end Go.Proofs.Ytcelfhoomhmioaa.Rp
set_option maxRecDepth 8192
namespace Go.Proofs.Ytcelfhoomhmioaa.Rp
open Go Go.Proofs.Ytcelfhoomhmioaa.X4
def joinP : List (Option (List UInt8)) → Option (List UInt8)
  | [] => some []
  | a :: t => cat a (joinP t)
theorem join_append (a b : List (Option (List UInt8))) : joinP (a ++ b) = cat (joinP a) (joinP b) := by
  induction a with
  | nil => cases h : joinP b <;> simp [joinP, cat, h]
  | cons x t ih =>
    simp only [List.cons_append, joinP, ih]
    cases x <;> cases joinP t <;> cases joinP b <;> simp [cat]
theorem join_none {α : Type} {f : α → Option (List UInt8)} {xs : List α} {k : Nat} {x : α} (h : xs[k]? = some x) (hn : f x = none) : joinP (xs.map f) = none := by
  induction xs generalizing k with
  | nil => simp at h
  | cons y t ih =>
    cases k with
    | zero =>
      simp at h
      subst h
      simp only [List.map_cons, joinP, hn]
      rfl
    | succ k =>
      simp at h
      simp only [List.map_cons, joinP, ih h]
      exact cat_none _
theorem join_succ {α : Type} {f : α → Option (List UInt8)} {xs : List α} {k : Nat} {x : α} {bs b : List UInt8} (h : xs[k]? = some x) (h1 : joinP ((xs.take k).map f) = some bs) (h2 : f x = some b) : joinP ((xs.take (k + 1)).map f) = some (bs ++ b) := by
  rw [List.take_add_one, h, List.map_append, join_append, h1]
  simp [joinP, h2, cat]
def rowT (x : S134) : Option (List UInt8) := cat (txnP x.f0) (numP [x.f1, x.f2])
def rowQ (x : S70) : Option (List UInt8) := cat (smallP x.f0 7) (numP [x.f1])
def tablesP (r : S39) : Option (List UInt8) := cat (numP [r.f6]) (cat (smallP r.f9.length 4) (cat (joinP (r.f9.map rowT)) (cat (smallP r.f10.length 8) (joinP (r.f10.map rowQ)))))
theorem num_len {xs : List Int} {bs : List UInt8} (h : numP xs = some bs) : bs.length = 4 * xs.length := by
  unfold numP at h
  split at h
  · cases h
    have key : ∀ ys : List Int, (ys.flatMap four).length = 4 * ys.length := fun ys => by
      induction ys with
      | nil => rfl
      | cons x t ih => rw [List.flatMap_cons, List.length_append, ih]; simp [four]; omega
    exact key xs
  · cases h
theorem txn_len {n : Int} {bs : List UInt8} (h : txnP n = some bs) : bs.length = 4 := by
  unfold txnP at h
  split at h
  · exact num_len h
  · cases h
theorem small_le {n m : Int} {bs : List UInt8} (h : smallP n m = some bs) : 0 ≤ n ∧ n ≤ m := by
  unfold smallP at h
  split at h
  · assumption
  · cases h
end Go.Proofs.Ytcelfhoomhmioaa.Rp
set_option maxRecDepth 8192
namespace Go.Proofs.Ytcelfhoomhmioaa.Rp
open Go Go.Proofs.Ytcelfhoomhmioaa.X4
def bodyP (r : S39) : Option (List UInt8) :=
  if r.f0 = 1 then cat (txnP r.f1) (cat (numP [r.f4]) (cat (placeP r.f2 r.f3 r.f8.size) (if r.f7.size = r.f8.size then some (r.f7.data.toList ++ r.f8.data.toList) else none)))
  else if r.f0 = 2 then cat (txnP r.f1) (cat (numP [r.f4, r.f5]) (cat (placeP r.f2 r.f3 r.f8.size) (some r.f8.data.toList)))
  else if r.f0 = 3 ∨ r.f0 = 4 then cat (txnP r.f1) (numP [r.f4])
  else if r.f0 = 5 then some []
  else if r.f0 = 6 then tablesP r
  else none
def recP (r : S39) : Option (List UInt8) := cat (smallP r.f0 6) (bodyP r)
def ownR (r : S39) : S39 :=
  if r.f0 = 1 then ⟨1, r.f1, r.f2, r.f3, r.f4, 0, 0, r.f7, r.f8, [], []⟩
  else if r.f0 = 2 then ⟨2, r.f1, r.f2, r.f3, r.f4, r.f5, 0, ⟨#[]⟩, r.f8, [], []⟩
  else if r.f0 = 3 ∨ r.f0 = 4 then ⟨r.f0, r.f1, 0, 0, r.f4, 0, 0, ⟨#[]⟩, ⟨#[]⟩, [], []⟩
  else if r.f0 = 6 then ⟨6, 0, 0, 0, 0, 0, r.f6, ⟨#[]⟩, ⟨#[]⟩, r.f9, r.f10⟩
  else ⟨r.f0, 0, 0, 0, 0, 0, 0, ⟨#[]⟩, ⟨#[]⟩, [], []⟩
theorem place_len {p o n : Int} {bs : List UInt8} (h : placeP p o n = some bs) : bs.length = 3 ∧ 1 ≤ n ∧ n ≤ 16 := by
  unfold placeP at h
  split at h
  · cases h1 : smallP p 7 with
    | none => rw [h1] at h; cases h
    | some a =>
      cases h2 : smallP o (220 - min n 220) with
      | none => rw [h1, h2] at h; cases h
      | some b =>
        cases h3 : smallP n 16 with
        | none => rw [h1, h2, h3] at h; cases h
        | some c =>
          rw [h1, h2, h3] at h
          cases h
          refine ⟨?_, by assumption, (small_le h3).2⟩
          rw [List.length_append, List.length_append, small_len h1, small_len h2, small_len h3]
  · cases h
end Go.Proofs.Ytcelfhoomhmioaa.Rp
set_option maxRecDepth 8192
namespace Go.Proofs.Ytcelfhoomhmioaa.Rp
open Go Go.RowKit Go.Proofs.Ytcelfhoomhmioaa.X4
set_option linter.unusedSimpArgs false
instance dec134 : DecidableEq S134 := fun a b => if h : a.f0 = b.f0 ∧ a.f1 = b.f1 ∧ a.f2 = b.f2 then isTrue (by cases a; cases b; simp_all) else isFalse (fun e => h (by subst e; simp))
instance dec70 : DecidableEq S70 := fun a b => if h : a.f0 = b.f0 ∧ a.f1 = b.f1 then isTrue (by cases a; cases b; simp_all) else isFalse (fun e => h (by subst e; simp))
instance dec39 : DecidableEq S39 := fun a b => if h : (a.f0 = b.f0 ∧ a.f1 = b.f1 ∧ a.f2 = b.f2 ∧ a.f3 = b.f3) ∧ (a.f4 = b.f4 ∧ a.f5 = b.f5 ∧ a.f6 = b.f6) ∧ (a.f7 = b.f7 ∧ a.f8 = b.f8) ∧ a.f9 = b.f9 ∧ a.f10 = b.f10 then isTrue (by cases a; cases b; simp_all) else isFalse (fun e => h (by subst e; simp))
theorem loop_bl (s : ByteArray) : ∀ (d i : Nat) (r : List UInt8), i + d = s.size → ByteArray.toList.loop s i r = r.reverse ++ (s.data.toList).drop i := by
  intro d
  induction d with
  | zero =>
    intro i r h
    rw [ByteArray.toList.loop, if_neg (by omega), List.drop_of_length_le (by rw [Array.length_toList]; exact Nat.le_of_eq (by show s.size = i; omega)), List.append_nil]
  | succ d ih =>
    intro i r h
    have hi : i < s.size := by omega
    have hl : i < (s.data.toList).length := by rw [Array.length_toList]; exact hi
    rw [ByteArray.toList.loop, if_pos hi, ih (i + 1) _ (by omega), List.drop_eq_getElem_cons hl, List.reverse_cons, List.append_assoc]
    have e : s.get! i = (s.data.toList)[i] := by
      show s.data[i]! = s.data.toList[i]
      have hd : i < s.data.size := hi
      rw [getElem!_pos s.data i hd]
      exact (Array.getElem_toList hd).symm
    rw [e]
    rfl
theorem toList_bl (s : ByteArray) : s.toList = s.data.toList := by
  show ByteArray.toList.loop s 0 [] = _
  rw [loop_bl s s.size 0 [] (by omega)]
  rfl
theorem toList_eq (a b : ByteArray) : a.toList = b.toList ↔ a = b := by
  constructor
  · intro h
    rw [toList_bl, toList_bl] at h
    cases a; cases b
    simp at h
    rw [h]
  · rintro rfl; rfl
/-- What Print says. -/
def printF (r : S39) : ByteArray × Int := match recP r with
  | none => (⟨#[]⟩, 1)
  | some bs => if ownR r = r then (⟨bs.toArray⟩, 0) else (⟨#[]⟩, 1)
theorem rec_ne {r : S39} {bs : List UInt8} (h : recP r = some bs) : bs ≠ [] := by
  unfold recP at h
  intro e
  subst e
  cases h1 : smallP r.f0 6 with
  | none => rw [h1] at h; cases h
  | some a =>
    have := small_len h1
    cases h2 : bodyP r with
    | none => rw [h1, h2] at h; cases h
    | some c =>
      rw [h1, h2] at h
      injection h with h
      have := congrArg List.length h
      simp at this
      simp [this.1] at *
theorem own_small {r : S39} {bs : List UInt8} (h : recP r = some bs) : (ownR r).f9.length ≤ 4 ∧ (ownR r).f10.length ≤ 8 := by
  by_cases h6 : r.f0 = 6
  · have e : recP r = cat (some [b8 r.f0]) (tablesP r) := by
      unfold recP bodyP
      rw [show smallP r.f0 6 = some [b8 r.f0] by unfold smallP; rw [if_pos (by omega)], if_neg (by omega), if_neg (by omega), if_neg (by omega), if_neg (by omega), if_pos h6]
    rw [e] at h
    have o : ownR r = ⟨6, 0, 0, 0, 0, 0, r.f6, ⟨#[]⟩, ⟨#[]⟩, r.f9, r.f10⟩ := by unfold ownR; rw [if_neg (by omega), if_neg (by omega), if_neg (by omega), if_pos h6]
    rw [o]
    unfold tablesP at h
    cases h1 : numP [r.f6] with
    | none => rw [h1] at h; cases h
    | some a =>
    cases h2 : smallP r.f9.length 4 with
    | none => rw [h1, h2] at h; cases h
    | some b =>
    cases h3 : joinP (r.f9.map rowT) with
    | none => rw [h1, h2, h3] at h; cases h
    | some c =>
    cases h4 : smallP r.f10.length 8 with
    | none => rw [h1, h2, h3, h4] at h; cases h
    | some d =>
      have := small_le h2
      have := small_le h4
      exact ⟨by simp only; omega, by simp only; omega⟩
  · have o : (ownR r).f9 = [] ∧ (ownR r).f10 = [] := by
      unfold ownR
      split
      · exact ⟨rfl, rfl⟩
      · split
        · exact ⟨rfl, rfl⟩
        · split
          · exact ⟨rfl, rfl⟩
          · exact ⟨rfl, rfl⟩
    rw [o.1, o.2]
    simp
end Go.Proofs.Ytcelfhoomhmioaa.Rp
set_option maxRecDepth 8192
namespace Go.Proofs.Ytcelfhoomhmioaa.Wr
open Go Go.RowKit Go.ChangeMaps Go.Proofs.Ytcelfhoomhmioaa.Arr Go.Proofs.Ytcelfhoomhmioaa.Ow Go.Proofs.YtcelfhoomhmioaaW.PrintWords Go.Proofs.YtcelfhoomhmioaaW.PrintLast Go.Proofs.YtcelfhoomhmioaaW.PrintMore
set_option linter.unusedVariables false
set_option linter.unusedSimpArgs false
abbrev TW : TypeId := 118
abbrev TB : TypeId := 5
abbrev TE : TypeId := 29
/-- What 'must' gives up with. -/
abbrev gaveUp (e : Int) : Ending := .panicked [{ v := .iface TE (.int .i64 e), recovered := false }]
theorem must_yes (e : Int) (w : World) : Calls Try.prog 50 #[.bool true, .int .i64 e] w fun x w' => x = .returned (.tuple #[]) ∧ w' = w := by
  go_enter Try.func50, Try.ntmps50
  go_wp2
  go_end0
  exact ⟨rfl, rfl⟩
theorem must_no (e : Int) (w : World) : Calls Try.prog 50 #[.bool false, .int .i64 e] w fun x w' => x = gaveUp e ∧ w' = w := by
  go_enter Try.func50, Try.ntmps50
  go_wp2
  exact ⟨rfl, rfl, rfl⟩
theorem blk_lt {w : World} {b : Nat} {o : Obj} (h : w.heap[b]? = some o) : b < w.heap.size := by
  rcases Nat.lt_or_ge b w.heap.size with h1 | h1
  · exact h1
  · simp [Array.getElem?_eq_none h1] at h
theorem blk_cell {w : World} {b : Nat} {cs : Array Value} {T : TypeId} {fr : Nat × Nat} (h : w.heap[b]? = some (.cells cs T fr)) (j : Nat) : w.cell? ⟨b, j, none⟩ = cs[j]? := Lib.cell_of_heap h j
theorem blk_frozen {w : World} {b : Nat} {cs : Array Value} {T : TypeId} (h : w.heap[b]? = some (.cells cs T (0, 0))) (j : Nat) : w.frozen? ⟨b, j, none⟩ = false := Lib.frozen_of_heap h j
theorem set_blk {w : World} {b : Nat} {cs : Array Value} {T : TypeId} {fr : Nat × Nat} (h : w.heap[b]? = some (.cells cs T fr)) (i : Nat) (u : Value) : (w.setCell ⟨b, i, none⟩ u).heap[b]? = some (.cells (cs.setIfInBounds i u) T fr) := by
  simp only [World.setCell]
  rw [Array.getElem?_modify, if_pos rfl, h]
  rfl
theorem infoBd : (Try.prog.info? 116).map (·.size) = some 2 := by kernel_rfl
theorem copyCheck_calls (g : Nat) (p bv : Value) (w : World) (h : w.heap[g]? = some (.cells #[p, bv] TW (0, 0))) (hp : p = .pointer none ∨ p = .pointer (some ⟨g, 0, none⟩)) : Calls Try.prog 80 #[.pointer (some ⟨g, 0, none⟩)] w fun x w' => x = .returned (.tuple #[]) ∧ w'.heap[g]? = some (.cells #[.pointer (some ⟨g, 0, none⟩), bv] TW (0, 0)) ∧ FS (fun k => k = g) w w' := by
  obtain ⟨j, hj, hjs⟩ := Option.map_eq_some_iff.1 infoBd
  rcases hp with rfl | rfl
  · have h0 : w.cell? ⟨g, 0, none⟩ = some (.pointer none) := blk_cell h 0
    have hfz : w.frozen? ⟨g, 0, none⟩ = false := blk_frozen h 0
    have hsh : w.shape? g = some (TW, 2) := by simp [World.shape?, h]
    have HB := Aside0.mk h
    clear h
    go_enter Try.func80, Try.ntmps80
    go_wp2
    rw [Lib.run_to_unsafe w ⟨g, 0, none⟩ (by kernel_rfl) (by kernel_rfl) hj (by rw [hjs]; decide) hsh (Nat.zero_lt_succ 1)]
    simp only [Result.andThen]
    rw [Oper.upon_value]
    go_wp2
    rw [run_callFunc_extern Try.func82 (by kernel_rfl) (by kernel_rfl) (by kernel_rfl) (e := Extern.AbiNoEscape.same) (by kernel_rfl)]
    rw [Lib.run_noEscape]
    simp only [Result.andThen]
    rw [Oper.upon_value]
    go_wp2
    rw [Lib.run_from_unsafe w ⟨g, 0, none⟩ (by kernel_rfl) (by kernel_rfl) hj hsh (by kernel_rfl)]
    simp only [Result.andThen]
    rw [Oper.upon_value]
    go_wp2
    go_end0
    exact ⟨rfl, set_blk HB.out 0 _, (FS.refl (fun k => k = g) w).setCell (p := ⟨g, 0, none⟩) (.inl (show g = g from rfl)) _⟩
  · have h0 : w.cell? ⟨g, 0, none⟩ = some (.pointer (some ⟨g, 0, none⟩)) := blk_cell h 0
    have HB := Aside0.mk h
    clear h
    go_enter Try.func80, Try.ntmps80
    go_wp2
    rw [Lib.run_neq_ptr_same w _ (by kernel_rfl) hj]
    go_wp2
    go_end0
    exact ⟨rfl, HB.out, FS.refl _ _⟩
structure WW (w : World) (S : Nat → Prop) (g : Nat) (l : List UInt8) (p bv : Value) : Prop where
  blk : w.heap[g]? = some (.cells #[p, bv] TW (0, 0))
  own : p = .pointer none ∨ p = .pointer (some ⟨g, 0, none⟩)
  buf : Ow w S TB 1 bv l.length (Lib.byteCells l)
  sg : S g
/-- Pointer g's writer has written l. -/
def WK (w : World) (S : Nat → Prop) (g : Nat) (l : List UInt8) : Prop := ∃ p bv, WW w S g l p bv
theorem ow_ne {w : World} {S : Nat → Prop} {e T : TypeId} {sz : Nat} {v : Value} {n : Nat} {xs : List Value} (h : Ow w S e sz v n xs) {b : Nat} {cs : Array Value} {fr : Nat × Nat} (hb : w.heap[b]? = some (.cells cs T fr)) (hT : T ≠ e) : ∀ k, v.ownBlock = some k → k ≠ b := fun k hk e1 => by
  subst e1
  rcases h.own.2 with ⟨rfl, _⟩ | ⟨g', cap, cur, rfl, _, hg, _⟩
  · cases hk
  · injection hk with hk
    subst hk
    rw [hb] at hg
    injection hg with hg
    injection hg with _ h2 _
    exact hT h2
theorem WW.lt {w : World} {S : Nat → Prop} {g : Nat} {l : List UInt8} {p bv : Value} (h : WW w S g l p bv) : g < w.heap.size := blk_lt h.blk
theorem blk_below {w w' : World} {b : Nat} {o : Obj} (h : w.heap[b]? = some o) (hb : Below w.heap.size w w') : w'.heap[b]? = some o := (hb.block b (blk_lt h)).trans h
theorem WK.below {w w' : World} {S : Nat → Prop} {g : Nat} {l : List UInt8} (h : WK w S g l) (hb : Below w.heap.size w w') : WK w' S g l := by
  obtain ⟨p, bv, h⟩ := h
  exact ⟨p, bv, blk_below h.blk hb, h.own, h.buf.same fun k hk => hb.block k (h.buf.own.lt k hk).2, h.sg⟩
theorem WK.kept {w w' : World} {S S2 : Nat → Prop} {g : Nat} {l : List UInt8} (h : WK w S g l) (hf : FS S2 w w') (hd : ∀ k, S k → ¬ S2 k) : WK w' S g l := by
  obtain ⟨p, bv, h⟩ := h
  exact ⟨p, bv, hf.old h.blk (hd g h.sg), h.own, h.buf.kept hf hd, h.sg⟩
theorem WK.mono {w : World} {S S2 : Nat → Prop} {g : Nat} {l : List UInt8} (h : WK w S g l) (hs : ∀ k, k < w.heap.size → S k → S2 k) : WK w S2 g l := by
  obtain ⟨p, bv, h⟩ := h
  exact ⟨p, bv, h.blk, h.own, h.buf.mono hs, hs g h.lt h.sg⟩
theorem WK.drew {w : World} {S : Nat → Prop} {g : Nat} {l : List UInt8} (h : WK w S g l) : WK w.drew S g l := h.below ((Below.refl _ _).drew)
/-- Behind copyCheck. -/
theorem WW.checked {w w' : World} {S : Nat → Prop} {g : Nat} {l : List UInt8} {p bv : Value} (h : WW w S g l p bv) (hb : w'.heap[g]? = some (.cells #[.pointer (some ⟨g, 0, none⟩), bv] TW (0, 0))) (hf : FS (fun k => k = g) w w') : WW w' S g l (.pointer (some ⟨g, 0, none⟩)) bv :=
  ⟨hb, .inr rfl, h.buf.same fun k hk => hf.block k (h.buf.own.lt k hk).2 (ow_ne h.buf h.blk (by decide) k hk), h.sg⟩
theorem grown_blk {w w' : World} {row : Option Nat} {b : Nat} {o : Obj} (hg : w.grownBy w' row) (h : w.heap[b]? = some o) (hn : some b ≠ row) : w'.heap[b]? = some o := (hg.block b (blk_lt h) hn).trans h
theorem WW.grown {w w' : World} {S : Nat → Prop} {g : Nat} {l l' : List UInt8} {p bv bv' : Value} (h : WW w S g l p bv) (hg : w.grownBy w' bv.ownBlock) (ho : Ow w' S TB 1 bv' l'.length (Lib.byteCells l')) :
    w'.heap[g]? = some (.cells #[p, bv] TW (0, 0)) ∧ WW (w'.setCell ⟨g, 1, none⟩ bv') S g l' p bv' := by
  have hb := grown_blk hg h.blk (fun e => ow_ne h.buf h.blk (by decide) g e.symm rfl)
  exact ⟨hb, set_blk hb 1 bv', h.own, ho.same fun k hk => Below.heap_setCell w' ⟨g, 1, none⟩ bv' k (ow_ne ho hb (by decide) k hk), h.sg⟩
theorem infoB : (Try.prog.info? TB).map (fun i => (i.zero, i.size, i.bytes)) = some (some (.int .u8 0), 1, 1) := by kernel_rfl
theorem push_byte {w : World} {S : Nat → Prop} {v : Value} (l : List UInt8) (b : UInt8) (h : Ow w S TB 1 v l.length (Lib.byteCells l)) (hl : l.length ≤ 1000000) {nb : Nat} (hnb : w.heap[nb]? = some (.cells #[.int .u8 b.toNat] TB (0, 0))) (ty : TypeId) :
    ∃ v' w', (Builtin.append_ #[92, 92] ty #[v, .slice (some ⟨nb, 0, none⟩) 1 1]).run Try.prog w = .ok v' w' ∧ Ow w' (fun k => S k ∨ k = w.heap.size) TB 1 v' (l ++ [b]).length (Lib.byteCells (l ++ [b])) ∧ w.grownBy w' v.ownBlock ∧ ∃ g' c', v' = .slice (some ⟨g', 0, none⟩) (l.length + 1) c' := by
  obtain ⟨i0, hi0, h2⟩ := Option.map_eq_some_iff.1 infoB
  have hz : i0.zero = some (.int .u8 0) := congrArg Prod.fst h2
  have hs : i0.size = 1 := congrArg (fun p => p.2.1) h2
  have hb : i0.bytes = 1 := congrArg (fun p => p.2.2) h2
  obtain ⟨v', w', r1, r2, r3, _, r5⟩ := run_append_ow (P := Try.prog) (ty := ty) 92 TB i0 _ 1 1 (by kernel_rfl) hi0 hz hs hb rfl (by decide) v l.length _ h ⟨nb, 0, none⟩ 1 1 [.int .u8 b.toNat] rfl (fun j u hj => by
    match j with
    | 0 => exact (blk_cell hnb 0).trans (by simpa using hj)
    | j + 1 => simp at hj) (fun u hu => by
    rcases List.mem_cons.1 hu with rfl | hu
    · rfl
    · cases hu) (by simp only [maxLen]; omega) (by omega) (by decide)
  refine ⟨v', w', r1, ?_, r3, r5⟩
  rw [List.length_append, Lib.byteCells_append]
  exact r2
theorem push_str {w : World} {S : Nat → Prop} {v : Value} (l : List UInt8) (s : ByteArray) (h : Ow w S TB 1 v l.length (Lib.byteCells l)) (hl : l.length + s.size ≤ 1000000) (hS : ∀ k, w.heap.size ≤ k → S k) (ty : TypeId) :
    ∃ v' w', (Builtin.append_ #[92, 9] ty #[v, .string s]).run Try.prog w = .ok v' w' ∧ Ow w' S TB 1 v' (l ++ s.data.toList).length (Lib.byteCells (l ++ s.data.toList)) ∧ w.grownBy w' v.ownBlock ∧ ∃ A' n' c', v' = .slice A' n' c' := by
  obtain ⟨i0, hi0, h2⟩ := Option.map_eq_some_iff.1 infoB
  have hz : i0.zero = some (.int .u8 0) := congrArg Prod.fst h2
  have hs : i0.size = 1 := congrArg (fun p => p.2.1) h2
  have hb : i0.bytes = 1 := congrArg (fun p => p.2.2) h2
  obtain ⟨v', w', r1, r2, r3, r4⟩ := Lib.run_append_own_string (P := Try.prog) w 0 92 9 ty TB i0 (by kernel_rfl) (by kernel_rfl) hi0 hz hs hb v l.length _ h.own s (by simp only [maxLen]; omega) (by omega) (Nat.zero_le _)
  have hsz : s.size = s.data.toList.length := by rw [Array.length_toList]; rfl
  refine ⟨v', w', r1, ⟨?_, ?_⟩, r3, ?_⟩
  · rw [List.length_append, Lib.byteCells_append, ← Lib.strCells_eq, ← hsz]
    exact r2
  · intro k hk
    have ht : Try.prog.underlying 92 = some (.slice TB) := by kernel_rfl
    have hu : Try.prog.underlying 9 = some .string := by kernel_rfl
    rcases h.own.2 with ⟨hv0, hn0⟩ | ⟨g, cap, cur, hv0, hbg, hg, hnc, hcm, hcs, htk⟩
    · subst hv0
      have hnil : Lib.byteCells l = [] := by rw [List.eq_nil_of_length_eq_zero hn0]; rfl
      obtain ⟨v2, w2, q1, q2, _, _⟩ := Lib.run_append_own_string (P := Try.prog) w w.heap.size 92 9 ty TB i0 ht hu hi0 hz hs hb _ 0 [] (World.ownsRow_nil w w.heap.size TB 1) s (by simp only [maxLen]; omega) (by omega) (Nat.le_refl _)
      have e := r1.symm.trans q1
      injection e with e1 e2
      subst e1
      exact hS k (q2.lt k hk).1
    · subst hv0
      by_cases hroom : l.length + s.size ≤ cap
      · have q1 := Lib.run_append_room_string (P := Try.prog) w 92 9 ty TB i0 ht hu hi0 hs g l.length cap cur hg s hroom (by omega)
        have e := r1.symm.trans q1
        injection e with e1 e2
        subst e1
        injection hk with hk
        subst hk
        exact h.mem g rfl
      · have q1 := Lib.run_append_grow_string (P := Try.prog) w 92 9 ty TB i0 _ ht hu hi0 hz ⟨g, 0, none⟩ l.length cap (Lib.byteCells l) (by rw [hs, Nat.mul_one]; exact Lib.byteCells_length l) (h.own.cells (g := g) rfl) s (by omega) (by omega) (by rw [hb]; exact growslice_fits (by omega) (by omega))
        have e := r1.symm.trans q1
        injection e with e1 e2
        subst e1
        injection hk with hk
        subst hk
        exact hS _ (Nat.le_refl _)
  · rcases r2.2 with ⟨hv, _⟩ | ⟨g, cap, cur, hv, _⟩
    · exact ⟨_, _, _, hv⟩
    · exact ⟨_, _, _, hv⟩
end Go.Proofs.Ytcelfhoomhmioaa.Wr
set_option maxRecDepth 8192
namespace Go.Proofs.Ytcelfhoomhmioaa.Wr
open Go Go.RowKit Go.ChangeMaps Go.Proofs.Ytcelfhoomhmioaa.Arr Go.Proofs.Ytcelfhoomhmioaa.Ow Go.Proofs.YtcelfhoomhmioaaW.PrintWords Go.Proofs.YtcelfhoomhmioaaW.PrintLast Go.Proofs.YtcelfhoomhmioaaW.PrintMore
set_option linter.unusedVariables false
set_option linter.unusedSimpArgs false
def Top (S : Nat → Prop) (w : World) : Prop := ∀ k, w.heap.size ≤ k → S k
theorem Top.next {S : Nat → Prop} {w w' : World} (h : Top S w) (hl : w.heap.size ≤ w'.heap.size) : Top S w' := fun k hk => h k (Nat.le_trans hl hk)
theorem ev_append2 {P : Program} {ops : Array Oper} {rest : List Oper} {o : Oper} {a : Act} {Q : Exit → Act → World → Prop} {W w1 : World} {v : Value} (s x : Operand) (t t2 : TypeId) (hgd : o.guard = none)
    (ho : o.op = .call { callee := .builtin .append, args := #[s, x], argTypes := #[t, t2] }) (v1 v2 : Value) (hs : a.eval s = v1) (hx : a.eval x = v2) (hr : (Builtin.append_ #[t, t2] o.type #[v1, v2]).run P W = .ok v w1)
    (h : wpList P ops Q rest (a.put o.dst v) w1) : wpList P ops Q (o :: rest) a W := by
  refine wpList_plain hgd fun _ hK => ?_
  unfold Oper.wp execOp
  simp only [ho, resolve, invoke, builtin, Sem.run_bind, Sem.run_pure, Result.andThen_ok, List.map_toArray, List.map_cons, List.map_nil, hs, hx, hr]
  exact hK _ _ h
theorem fs_freeze {S : Nat → Prop} {q : Nat} (h : S q) (w : World) (n : Nat) : FS S w (w.drew.freeze ⟨q, 0, none⟩ n) := by
  unfold World.freeze
  split
  · exact (FS.refl S w).drew
  · exact ⟨rfl, rfl, rfl, by simp, fun k hk hn => by
      simp only [Array.getElem?_modify]
      rw [if_neg (show ¬ q = k from fun e => hn (by rw [← e]; exact h))]
      rfl⟩
set_option maxHeartbeats 1000000 in
theorem writeByte_calls (g : Nat) (l : List UInt8) (b : UInt8) (S : Nat → Prop) (w : World) (hS : Top S w) (h : WK w S g l) (hl : l.length ≤ 1000000) : Calls Try.prog 79 #[.pointer (some ⟨g, 0, none⟩), .int .u8 (b.toNat : Int)] w fun x w' => x = .returned .nilIface ∧ WK w' S g (l ++ [b]) ∧ FS S w w' := by
  obtain ⟨p, bv, hv⟩ := h
  have HV := Aside0.mk hv; have HS := Aside0.mk hS; have HL := Aside0.mk hl; clear hv hS hl
  go_enter Try.func79, Try.ntmps79
  go_upto_region 2 with (go_at_call 80; (with_reducible refine (copyCheck_calls g p bv _ HV.out.blk HV.out.own).mono ?_); rintro e w1 ⟨rfl, hb, hf⟩; have HW := Aside0.mk (HV.out.checked hb hf); have F := Aside0.mk (hf.mono (S2 := S) fun k _ e => by rw [e]; exact HV.out.sg); clear hb hf)
  clear HV
  obtain ⟨A, c, rfl, -⟩ := HW.out.buf.shape
  have c1 : w1.cell? ⟨g, 1, none⟩ = some (.slice A l.length c) := blk_cell HW.out.blk 1
  have hbb := (Below.refl w1.heap.size w1).alloc (Nat.le_refl _) (.cells #[.int .u8 (b.toNat : Int)] TB)
  have hw2 : WW (w1.alloc (.cells #[.int .u8 (b.toNat : Int)] TB)) S g l (.pointer (some ⟨g, 0, none⟩)) (.slice A l.length c) := ⟨blk_below HW.out.blk hbb, .inr rfl, HW.out.buf.same fun k hk => hbb.block k (HW.out.buf.own.lt k hk).2, HW.out.sg⟩
  obtain ⟨v', W4, hr, how, hgr, g', c', rfl⟩ := push_byte l b hw2.buf HL.out (heap_alloc_new w1 _) 92
  have how2 := how.mono (S2 := S) (fun k _ hk => hk.elim id (fun e => HS.out k (by rw [e]; have := F.out.size; simp; omega)))
  have hp := hw2.grown hgr how2
  have k1 : W4.cell? ⟨g, 1, none⟩ = some (.slice A l.length c) := blk_cell hp.1 1
  have k2 : W4.frozen? ⟨g, 1, none⟩ = false := blk_frozen hp.1 1
  have HP := Aside0.mk hp.2; have HR := Aside0.mk hr
  have F4 := Aside0.mk (((F.out.below hbb).grown hgr (fun k hk => .inl (hw2.buf.mem k hk))).setCell (p := ⟨g, 1, none⟩) (.inl HW.out.sg) (.slice (some ⟨g', 0, none⟩) (l.length + 1) c'))
  clear hbb hw2 how how2 hgr hp hr
  go_wp2_with ((with_reducible refine gate_builtin (b := .append) (xs := #[.tmp 11, .tmp 13]) rfl ?_); at_builtin; refine ev_append (.tmp 11) (.tmp 13) 92 rfl rfl _ _ rfl rfl HR.out ?_)
  go_ret
  exact ⟨rfl, ⟨_, _, HP.out⟩, F4.out⟩
set_option maxHeartbeats 1000000 in
theorem writeString_calls (g : Nat) (l : List UInt8) (s : ByteArray) (S : Nat → Prop) (w : World) (hS : Top S w) (h : WK w S g l) (hl : l.length + s.size ≤ 1000000) : Calls Try.prog 71 #[.pointer (some ⟨g, 0, none⟩), .string s] w fun x w' => x = .returned (.tuple #[.int .i64 s.size, .nilIface]) ∧ WK w' S g (l ++ s.data.toList) ∧ FS S w w' := by
  obtain ⟨p, bv, hv⟩ := h
  have HV := Aside0.mk hv; have HS := Aside0.mk hS; have HL := Aside0.mk hl; clear hv hS hl
  go_enter Try.func71, Try.ntmps71
  go_upto_region 2 with (go_at_call 80; (with_reducible refine (copyCheck_calls g p bv _ HV.out.blk HV.out.own).mono ?_); rintro e w1 ⟨rfl, hb, hf⟩; have HW := Aside0.mk (HV.out.checked hb hf); have F := Aside0.mk (hf.mono (S2 := S) fun k _ e => by rw [e]; exact HV.out.sg); clear hb hf)
  clear HV
  obtain ⟨A, c, rfl, -⟩ := HW.out.buf.shape
  have c1 : w1.cell? ⟨g, 1, none⟩ = some (.slice A l.length c) := blk_cell HW.out.blk 1
  obtain ⟨v', W4, hr, how, hgr, A', n', c', rfl⟩ := push_str l s HW.out.buf HL.out (fun k hk => HS.out k (Nat.le_trans F.out.size hk)) 92
  have hp := HW.out.grown hgr how
  have k1 : W4.cell? ⟨g, 1, none⟩ = some (.slice A l.length c) := blk_cell hp.1 1
  have k2 : W4.frozen? ⟨g, 1, none⟩ = false := blk_frozen hp.1 1
  have HP := Aside0.mk hp.2; have HR := Aside0.mk hr
  have F4 := Aside0.mk ((F.out.grown hgr (fun k hk => .inl (HW.out.buf.mem k hk))).setCell (p := ⟨g, 1, none⟩) (.inl HW.out.sg) (.slice A' n' c'))
  clear how hgr hp hr
  go_wp2_with ((with_reducible refine gate_builtin (b := .append) (xs := #[.tmp 12, .tmp 13]) rfl ?_); at_builtin; refine ev_append2 (.tmp 12) (.tmp 13) 92 9 rfl rfl _ _ rfl rfl HR.out ?_)
  go_ret2
  exact ⟨rfl, ⟨_, _, HP.out⟩, F4.out⟩
set_option maxHeartbeats 1000000 in
theorem string_calls (g : Nat) (l : List UInt8) (S : Nat → Prop) (w : World) (h : WK w S g l) (h0 : l ≠ []) : Calls Try.prog 53 #[.pointer (some ⟨g, 0, none⟩)] w fun x w' => x = .returned (.string ⟨l.toArray⟩) ∧ FS S w w' := by
  obtain ⟨p, bv, hv⟩ := h
  have hl0 : 0 < l.length := List.length_pos_iff.2 h0
  obtain ⟨q, cap, cur, rfl, hq, hg, hnc, hcm, hcs, htk⟩ := hv.buf.open hl0
  have c1 : w.drew.cell? ⟨g, 1, none⟩ = some (.slice (some ⟨q, 0, none⟩) l.length cap) := blk_cell (w := w.drew) hv.blk 1
  have hSD : (Builtin.unsafeSliceData_ #[92] 143 #[.slice (some ⟨q, 0, none⟩) l.length cap]).run Try.prog w.drew = .ok (.pointer (some ⟨q, 0, none⟩)) w.drew :=
    Lib.run_unsafeSliceData_row _ _ _ _ _ _ (by omega)
  have hUS : (Builtin.unsafeString_ #[143, 3] 9 #[.pointer (some ⟨q, 0, none⟩), .int .i64 l.length]).run Try.prog w.drew = .ok (.string ⟨l.toArray⟩) (w.drew.freeze ⟨q, 0, none⟩ l.length) := by
    refine Lib.run_unsafeString_row w.drew 143 3 9 TB (by kernel_rfl) (by kernel_rfl) q cur.size (by have hg' : w.drew.heap[q]? = some (.cells cur TB (0, 0)) := hg; simp [World.shape?, hg']) l h0 (by omega) (by unfold maxLen at hcm; omega) ?_
    intro j x hx
    have := hv.buf.own.cells (g := q) rfl j (.int .u8 x.toNat) (by simp [Lib.byteCells, hx])
    exact this
  have HQ := Aside0.mk hq
  clear hv hl0 hg hnc hcm hcs htk h0
  go_enter Try.func53, Try.ntmps53
  go_wp2
  go_region
  all_goals (go_wp2; go_ret; exact ⟨rfl, fs_freeze HQ.out w l.length⟩)
end Go.Proofs.Ytcelfhoomhmioaa.Wr
set_option maxRecDepth 8192
namespace Go.Proofs.Ytcelfhoomhmioaa.Wr
open Go Go.RowKit Go.ChangeMaps Go.Proofs.Ytcelfhoomhmioaa.Arr Go.Proofs.Ytcelfhoomhmioaa.Ow Go.Proofs.YtcelfhoomhmioaaW.PrintWords Go.Proofs.YtcelfhoomhmioaaW.PrintLast Go.Proofs.YtcelfhoomhmioaaW.PrintMore
set_option linter.unusedVariables false
set_option linter.unusedSimpArgs false
theorem as_errno (v : Value) (w : World) : (Instr.typeAssert (.iface TE v) 20 TE true).run Try.prog w = .ok (.tuple #[v, .bool true]) w := by kernel_rfl
theorem as_none (w : World) : (Instr.typeAssert .nilIface 20 TE true).run Try.prog w = .ok (.tuple #[.int .i64 0, .bool false]) w := by kernel_rfl
theorem caught_up (p : Addr) (x c : Int) (older : List PanicEntry) (w : World) (hc : w.cell? p = some (.int .i64 x)) (hz : w.frozen? p = false) :
    CallsD Try.prog 49 #[.pointer (some p)] (.panicking ({ v := .iface TE (.int .i64 c), recovered := false } :: older)) w fun e u' w' =>
      e = .returned (.tuple #[]) ∧ u' = .panicking ({ v := .iface TE (.int .i64 c), recovered := true } :: older) ∧ w' = w.setCell p (.int .i64 c) := by
  refine callsD_of_wpS Try.func49 rfl fun c₀ cs hu => ?_
  apply wpS_seq
  apply wpS_region
  simp [wpOpsS, go_sem, as_errno, as_none, recoverD, hu, Try.ntmps49, Exit.thenS]
  apply wpS_seq
  apply wpS_region
  simp [wpOpsS, go_sem, Exit.thenS]
  refine wpS_cond (t := true) (by simp [Act.eval, Array.replicate]) ?_
  simp only [if_true]
  apply wpS_region
  simp [wpOpsS, go_sem, hc, hz, bodyPostS, results, Try.results49]
theorem caught_idle (p : Addr) (w : World) :
    CallsD Try.prog 49 #[.pointer (some p)] .returning w fun e u' w' => e = .returned (.tuple #[]) ∧ u' = .returning ∧ w' = w := by
  refine callsD_of_wpS Try.func49 rfl fun c₀ cs hu => ?_
  apply wpS_seq
  apply wpS_region
  simp [wpOpsS, go_sem, as_errno, as_none, recoverD, hu, Try.ntmps49, Exit.thenS]
  apply wpS_seq
  apply wpS_region
  simp [wpOpsS, go_sem, Exit.thenS]
  refine wpS_cond (t := false) (by simp [Act.eval, Array.replicate]) ?_
  simp only [Bool.false_eq_true, if_false]
  refine wpS_of_wp (wp_skip ?_)
  cases c₀
  simp_all [bodyPostS, results, Try.results49]
/-- What is read at the door hangs on the results' slots alone. -/
theorem leaves_tmps {P : Program} {f : Func} {R : Ending → World → Prop} {t t' : Array Value} (h : results f t = results f t') : ∀ (ds : List Deferred) (u : FrameMode) (w : World), Leaves P f t R ds u w → Leaves P f t' R ds u w := by
  intro ds
  induction ds with
  | nil =>
    intro u w hl
    cases u with
    | run => exact hl
    | returning => rw [Leaves] at hl ⊢; rw [← h]; exact hl
    | panicking c => rw [Leaves] at hl ⊢; exact hl
  | cons d ds ih =>
    intro u w hl
    rw [Leaves] at hl ⊢
    obtain ⟨h1, fv, cap, k, args, h2, h3, h4⟩ := hl
    refine ⟨h1, fv, cap, k, args, h2, h3, h4.mono ?_⟩
    intro e u' w' hx
    cases e with
    | returned v => exact ih _ _ hx
    | panicked c => exact ih _ _ hx
    | outgrown => exact hx
theorem put_get (a : Act) (n j : Nat) (v d : Value) (h : n ≠ j) : (a.put (some n) v).tmps.getD j d = a.tmps.getD j d := by
  unfold Act.put
  simp only [Array.getD_eq_getD_getElem?, Array.getElem?_setIfInBounds, if_neg h]
theorem bp_print {R : Ending → World → Prop} (n : Nat) (hn : n ≠ 2 ∧ n ≠ 3) (v : Value) (c : List PanicEntry) (a : Act) (w : World) (h : bodyPostD Try.prog Try.f39 R (.panic c) (a.put (some n) v) w) : bodyPostD Try.prog Try.f39 R (.panic c) a w := by
  have e : results Try.f39 (a.put (some n) v).tmps = results Try.f39 a.tmps := by
    have e2 := put_get a n 2 v undef hn.1
    have e3 := put_get a n 3 v undef hn.2
    unfold results
    rw [Try.results39]
    simp only [Array.mapM_eq_mapM_toList, List.mapM_cons, List.mapM_nil, e2, e3]
  exact leaves_tmps e _ _ _ h
end Go.Proofs.Ytcelfhoomhmioaa.Wr
set_option maxRecDepth 8192
namespace Go.Proofs.Ytcelfhoomhmioaa.Bof
open Go Go.RowKit Go.Proofs.Ytcelfhoomhmioaa.Arr Go.Proofs.YtcelfhoomhmioaaW.PrintWords Go.Proofs.Ytcelfhoomhmioaa
set_option linter.unusedVariables false
/-- Block g bears s's bytes ahead; a mark behind them. -/
def Holds (w : World) (g : Nat) (T : TypeId) (s : ByteArray) : Prop := ∃ (C : Array Value) (a b : Nat), w.heap[g]? = some (.cells C T (a, b)) ∧ s.size ≤ a ∧ s.size ≤ C.size ∧ ∀ i (h : i < s.size), C[i]? = some (.int .u8 ((s[i]'h).toNat : Int))
theorem Holds.below {w w1 : World} {g : Nat} {T : TypeId} {s : ByteArray} (h : Holds w g T s) (hb : Below w.heap.size w w1) : Holds w1 g T s := by
  obtain ⟨C, a, b, h1, h2⟩ := h
  exact ⟨C, a, b, Wr.blk_below h1 hb, h2⟩
theorem Holds.cell {w : World} {g : Nat} {T : TypeId} {s : ByteArray} (h : Holds w g T s) (i : Nat) (hi : i < s.size) : w.cell? ⟨g, i, none⟩ = some (.int .u8 ((s[i]'hi).toNat : Int)) := by
  obtain ⟨C, a, b, h1, _, _, h3⟩ := h
  rw [cell_of_row w g i C T (a, b) h1]
  exact h3 i hi
theorem Holds.conv {P : Program} {w : World} {g : Nat} {T : TypeId} {s : ByteArray} (h : Holds w g T s) (src e dst : TypeId) (cap : Nat) (hs : P.underlying src = some (.slice e)) (he : P.underlying e = some (.int .u8)) (hd : P.underlying dst = some .string) :
    (convert src dst (.slice (some ⟨g, 0, none⟩) s.size cap)).run P w = .ok (.string s) w := by
  have hl : s.data.toList.length = s.size := by simp
  have := run_convert_bytes_back (P := P) w src dst e ⟨g, 0, none⟩ cap s.data.toList hs he hd (fun j hj => by
    rw [add_plain, h.cell j (by omega)]
    rfl)
  rw [hl] at this
  exact this
end Go.Proofs.Ytcelfhoomhmioaa.Bof
set_option maxRecDepth 8192
namespace Go.Proofs.Ytcelfhoomhmioaa.Wr
open Go.Proofs.Ytcelfhoomhmioaa.Rp Go.Proofs.Ytcelfhoomhmioaa.X4
open Go Go.RowKit Go.ChangeMaps Go.Proofs.Ytcelfhoomhmioaa.Arr Go.Proofs.Ytcelfhoomhmioaa.Ow Go.Proofs.YtcelfhoomhmioaaW.PrintWords Go.Proofs.YtcelfhoomhmioaaW.PrintLast Go.Proofs.YtcelfhoomhmioaaW.PrintMore
set_option linter.unusedVariables false
set_option linter.unusedSimpArgs false
def num4 (b : ByteArray) : Int := ((bt b 0 * 256 + bt b 1) * 256 + bt b 2) * 256 + bt b 3
def nv (b : ByteArray) : Nat → Int
  | 0 => 0
  | k + 1 => nv b k * 256 + bt b k
theorem or_join (x y : Int) (h0 : 0 ≤ x) (h1 : x < 16777216) (h2 : 0 ≤ y) (h3 : y < 256) : bits .or .i64 (x * 256) y = x * 256 + y :=
  bits_join .i64 40 (by decide) (fun n a b => by rw [IntKind.wrap_i64]; omega) 8 (x * 256) y (by omega) (by omega) (by omega) h2 (by omega) (by omega)
end Go.Proofs.Ytcelfhoomhmioaa.Wr
set_option maxRecDepth 8192
namespace Go.Proofs.Ytcelfhoomhmioaa.Dk
open Go Go.RowKit Go.ChangeMaps Go.Proofs.Ytcelfhoomhmioaa.Arr Go.Proofs.Ytcelfhoomhmioaa.Mp Go.Proofs.Ytcelfhoomhmioaa.Ow Go.Proofs.YtcelfhoomhmioaaW.PrintWords Go.Proofs.YtcelfhoomhmioaaW.PrintLast Go.Proofs.YtcelfhoomhmioaaW.PrintMore
set_option linter.unusedVariables false
set_option linter.unusedSimpArgs false
theorem set_blk {w : World} {g : Nat} {cs : Array Value} {t : TypeId} {fr : Nat × Nat} (h : w.heap[g]? = some (.cells cs t fr)) (i : Nat) (u : Value) : (w.setCell ⟨g, i, none⟩ u).heap[g]? = some (.cells (cs.setIfInBounds i u) t fr) := by
  simp only [World.setCell]
  rw [Array.getElem?_modify, if_pos rfl, h]
  rfl
end Go.Proofs.Ytcelfhoomhmioaa.Dk
set_option maxRecDepth 8192
namespace Go.Proofs.Ytcelfhoomhmioaa.Cr
open Go Go.RowKit Go.Proofs.Ytcelfhoomhmioaa.Arr Go.Proofs.Ytcelfhoomhmioaa.Mp Go.Proofs.Ytcelfhoomhmioaa.Ow Go.Proofs.Ytcelfhoomhmioaa.Dk
set_option linter.unusedVariables false
set_option linter.unusedSimpArgs false
abbrev WL := List (Int × ByteArray)
/-- A sector of a row. -/
def cut (S : List ByteArray) (p : Int) : ByteArray := (S[p.toNat]?).getD ⟨#[]⟩
/-- What of a row, and of writes that aren't safe, a crash may leave. -/
def Out (S : List ByteArray) (W : WL) (T : List ByteArray) : Prop :=
  T.length = S.length ∧ ∀ p : Int, 0 ≤ p → p < S.length → cut T p = cut S p ∨ (∃ s, (p, s) ∈ W ∧ cut T p = s) ∨ ((∃ s, (p, s) ∈ W) ∧ cut T p = noughts 128)
theorem Out.mono {S T : List ByteArray} {W W2 : WL} (h : Out S W T) (hs : ∀ q ∈ W, q ∈ W2) : Out S W2 T := by
  refine ⟨h.1, fun p h0 h1 => ?_⟩
  rcases h.2 p h0 h1 with e | ⟨s, m, e⟩ | ⟨⟨s, m⟩, e⟩
  · exact .inl e
  · exact .inr (.inl ⟨s, hs _ m, e⟩)
  · exact .inr (.inr ⟨⟨s, hs _ m⟩, e⟩)
theorem Out.refl (S : List ByteArray) (W : WL) : Out S W S := ⟨rfl, fun _ _ _ => .inl rfl⟩
/-- A disk with power, and with this safe and this waiting. -/
def Mid (S : List ByteArray) (R : WL) (d : DS) : Prop := d.safe = S ∧ d.row = R ∧ d.gone = false
/-- A disk without power, and with this safe, and no more than this waiting. -/
def Ded (S : List ByteArray) (R : WL) (d : DS) : Prop := d.safe = S ∧ (∀ q ∈ d.row, q ∈ R) ∧ d.gone = true
theorem Ded.mono {S : List ByteArray} {R R2 : WL} {d : DS} (h : Ded S R d) (hs : ∀ q ∈ R, q ∈ R2) : Ded S R2 d := ⟨h.1, fun q m => hs q (h.2.1 q m), h.2.2⟩
theorem mid_bears {S : List ByteArray} {R : WL} {d : DS} (h : Mid S R d) : (bearsE d = 0 ∧ Mid S R (bearsD d)) ∨ (bearsE d = 4 ∧ Ded S R (bearsD d)) := by
  obtain ⟨h1, h2, h3⟩ := h
  by_cases e : d.fuse = 0
  · right
    refine ⟨by simp [bearsE, e], ?_, ?_, ?_⟩
    · rw [bears_safe]; exact h1
    · rw [bears_row, h2]; exact fun q m => m
    · simp [bearsD, h3, e]
  · left
    refine ⟨by simp [bearsE, e, h3], ?_, ?_, ?_⟩
    · rw [bears_safe]; exact h1
    · rw [bears_row, h2]
    · unfold bearsD
      rw [if_neg (by rw [h3]; decide), if_neg e]
      split <;> exact h3
theorem mid_write {S : List ByteArray} {R : WL} {d : DS} (h : Mid S R d) {p : Int} {s : ByteArray} (h0 : 0 ≤ p) (h1 : p < S.length) (hs : s.size = 128) : (writeE d p s = 0 ∧ Mid S (R ++ [(p, s)]) (writeD d p s)) ∨ (writeE d p s = 4 ∧ Ded S R (writeD d p s)) := by
  have ht : thereD d p = true := by unfold thereD; rw [h.1, decide_eq_true h0, decide_eq_true h1]; rfl
  have eE : writeE d p s = bearsE d := by unfold writeE; rw [ht, hs]; simp
  have eD : writeD d p s = if bearsE d ≠ 0 then bearsD d else pushD (bearsD d) p s := by unfold writeD; rw [ht, hs]; simp
  rw [eE, eD]
  rcases mid_bears h with ⟨e, m⟩ | ⟨e, m⟩
  · left
    refine ⟨e, ?_⟩
    rw [if_neg (by omega)]
    exact ⟨m.1, by unfold pushD; simp only; rw [m.2.1], m.2.2⟩
  · right
    refine ⟨e, ?_⟩
    rw [if_pos (by omega)]
    exact m
theorem mid_sync {S : List ByteArray} {R : WL} {d : DS} (h : Mid S R d) : (syncE d = 0 ∧ Mid (overF (lastOf R) S) [] (syncD d)) ∨ (syncE d = 4 ∧ Ded S R (syncD d)) := by
  have hb := mid_bears h
  obtain ⟨h1, h2, h3⟩ := h
  unfold syncE syncD
  rcases hb with ⟨e, m⟩ | ⟨e, m⟩
  · left
    refine ⟨e, ?_⟩
    rw [if_neg (by omega)]
    exact ⟨by unfold settleD; simp only; rw [h2, h1], rfl, m.2.2⟩
  · right
    refine ⟨e, ?_⟩
    rw [if_pos (by omega)]
    exact m
theorem cut_over (f : Int → Option ByteArray) (S : List ByteArray) (p : Int) (h0 : 0 ≤ p) (h1 : p < S.length) : cut (overF f S) p = (f p).getD (cut S p) := by
  unfold cut overF
  rw [List.getElem?_mapIdx, List.getElem?_eq_getElem (by omega)]
  simp only [Option.map_some, Option.getD_some]
  rw [show ((p.toNat : Nat) : Int) = p by omega]
theorem over_len (f : Int → Option ByteArray) (S : List ByteArray) : (overF f S).length = S.length := by unfold overF; simp
/-- With no fuse all is borne. -/
theorem free_bears {d : DS} (hg : d.gone = false) (hf : d.fuse = -1) : bearsE d = 0 ∧ bearsD d = d := by
  refine ⟨by simp [bearsE, hg, hf], by simp [bearsD, hg, hf]⟩
theorem free_write {d : DS} (hg : d.gone = false) (hf : d.fuse = -1) (p : Int) (s : ByteArray) : (writeE d p s ≠ 4) ∧ (writeD d p s).gone = false ∧ (writeD d p s).fuse = -1 := by
  unfold writeE writeD
  rw [(free_bears hg hf).1, (free_bears hg hf).2]
  refine ⟨?_, ?_, ?_⟩
  · split
    · decide
    · split <;> decide
  · split
    · exact hg
    · split
      · exact hg
      · simp only [ne_eq, not_true_eq_false, if_false]; exact hg
  · split
    · exact hf
    · split
      · exact hf
      · simp only [ne_eq, not_true_eq_false, if_false]; exact hf
theorem free_sync {d : DS} (hg : d.gone = false) (hf : d.fuse = -1) : syncE d = 0 ∧ (syncD d).gone = false ∧ (syncD d).fuse = -1 := by
  unfold syncE syncD
  rw [(free_bears hg hf).1, (free_bears hg hf).2]
  exact ⟨rfl, by simpa [settleD] using hg, by simpa [settleD] using hf⟩
/-- A quiet disk is read by its row. -/
theorem quiet_readE {S : List ByteArray} {d : DS} (h : Mid S [] d) {p : Int} (h0 : 0 ≤ p) (h1 : p < S.length) : readE d p = 0 := by
  unfold readE thereD
  rw [h.2.2, h.1, decide_eq_true h0, decide_eq_true h1]
  simp
theorem quiet_readS {S : List ByteArray} {d : DS} (h : Mid S [] d) {p : Int} (h0 : 0 ≤ p) (h1 : p < S.length) : readS d p = cut S p := by
  unfold readS
  rw [quiet_readE h h0 h1, h.2.1, h.1, last_nil]
  simp [cut]
end Go.Proofs.Ytcelfhoomhmioaa.Cr
set_option maxRecDepth 8192
namespace Go.Proofs.Ytcelfhoomhmioaa.Lv
open Go Go.RowKit Go.ChangeMaps Go.Proofs.Ytcelfhoomhmioaa.Arr Go.Proofs.Ytcelfhoomhmioaa.Mp Go.Proofs.Ytcelfhoomhmioaa.Ow Go.Proofs.Ytcelfhoomhmioaa.Dk Go.Proofs.YtcelfhoomhmioaaW.PrintWords
set_option linter.unusedVariables false
set_option linter.unusedSimpArgs false
theorem mod_ok (n : Int) (i : Int) (h0 : 0 < n) (h1 : n < 4294967296) : 0 ≤ wrap64 ((IntKind.u64.wrap i).tmod n) ∧ wrap64 ((IntKind.u64.wrap i).tmod n) < n := by
  have hp : 0 ≤ IntKind.u64.wrap i ∧ IntKind.u64.wrap i < 18446744073709551616 := by constructor <;> simp [IntKind.wrap, IntKind.bits, IntKind.signed] <;> omega
  rw [Int.tmod_eq_emod_of_nonneg hp.1]
  have h2 := Int.emod_nonneg (IntKind.u64.wrap i) (show n ≠ 0 by omega)
  have h3 := Int.emod_lt_of_pos (IntKind.u64.wrap i) h0
  unfold wrap64
  omega
end Go.Proofs.Ytcelfhoomhmioaa.Lv
