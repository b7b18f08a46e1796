import Derived.Test.YtbdfdfahpdilpaaOw
import Derived.Test.YtbdfdfahpdilpaaProg
import Derived.Test.YtbdfdfahpdilpaaWMore
import Derived.Test.YtbdfdfahpdilpaaWLast
import Derived.Deep.QuietTactic
import Derived.Deep.RegionLaw
import Derived.BigQuiet
import Derived.RegionTactic
import Derived.Outline
import Derived.Lib.Hide
import Derived.Deep.CutBlock
import Derived.Deep.DeepCutAuto
/-! Layer 3: a disk: what it holds. -/
namespace Go.Proofs.Ytbdfdfahpdilpaa.Dk
open Go Go.RowKit Go.ChangeMaps Go.Proofs.Ytbdfdfahpdilpaa.Arr Go.Proofs.Ytbdfdfahpdilpaa.Mp Go.Proofs.Ytbdfdfahpdilpaa.Ow
set_option linter.unusedVariables false
set_option linter.unusedSimpArgs false
/-- What a disk holds. -/
structure DS where
  safe : List ByteArray
  row : List (Int × ByteArray)
  gone : Bool
  fuse : Int
def lastOf (row : List (Int × ByteArray)) : Int → Option ByteArray := fun i => row.foldl (fun o p => if i = p.1 then some p.2 else o) none
theorem last_nil : lastOf [] = fun _ => none := rfl
theorem last_push (row : List (Int × ByteArray)) (k : Int) (s : ByteArray) : lastOf (row ++ [(k, s)]) = fun i => if i = k then some s else lastOf row i := by
  funext i
  simp [lastOf, List.foldl_append]
def wc (row : List (Int × ByteArray)) : List Value := row.flatMap fun p => [.int .i64 p.1, .string p.2]
theorem wc_length (row : List (Int × ByteArray)) : (wc row).length = row.length * 2 := by
  induction row with
  | nil => rfl
  | cons p r ih => simp only [wc, List.flatMap_cons, List.length_append, List.length_cons, List.length_nil] at ih ⊢; omega
theorem wc_push (row : List (Int × ByteArray)) (k : Int) (s : ByteArray) : wc (row ++ [(k, s)]) = wc row ++ [.int .i64 k, .string s] := by simp [wc, List.flatMap_append]
theorem wc_get (row : List (Int × ByteArray)) (j : Nat) (k : Int) (s : ByteArray) (h : row[j]? = some (k, s)) : (wc row)[j * 2]? = some (.int .i64 k) ∧ (wc row)[j * 2 + 1]? = some (.string s) := by
  induction row generalizing j with
  | nil => simp at h
  | cons p r ih =>
    have e : wc (p :: r) = .int .i64 p.1 :: .string p.2 :: wc r := by simp [wc]
    rw [e]
    cases j with
    | zero => simp at h; subst h; exact ⟨rfl, rfl⟩
    | succ j =>
      have := ih j (by simpa using h)
      rw [show (j + 1) * 2 = j * 2 + 1 + 1 by omega]
      simpa using this
/-- All that is new lies in S. -/
def Top (S : Nat → Prop) (w : World) : Prop := ∀ k, w.heap.size ≤ k → S k
theorem Top.next {S : Nat → Prop} {w w' : World} (h : Top S w) (hl : w.heap.size ≤ w'.heap.size) : Top S w' := fun k hk => h k (Nat.le_trans hl hk)
theorem blk_ne {w : World} {a b : Nat} {cs cs' : Array Value} {t t' : TypeId} {fr fr' : Nat × Nat} (h : w.heap[a]? = some (.cells cs t fr)) (h' : w.heap[b]? = some (.cells cs' t' fr')) (ht : t ≠ t') : a ≠ b := by
  intro e
  subst e
  rw [h] at h'
  injection h' with h'
  injection h' with _ h2 _
  exact ht h2
theorem MP.ne_cells {w : World} {m g : Nat} {f : Int → Option ByteArray} {cs : Array Value} {t : TypeId} {fr : Nat × Nat} (h : MP w m f) (hg : w.heap[g]? = some (.cells cs t fr)) : m ≠ g := by
  obtain ⟨L, c, h1, _⟩ := h
  intro e
  subst e
  rw [hg] at h1
  cases h1
theorem ow_ne {w : World} {S : Nat → Prop} {e : TypeId} {sz : Nat} {v : Value} {n : Nat} {xs : List Value} (h : Ow w S e sz v n xs) {g : Nat} {cs : Array Value} {t : TypeId} {fr : Nat × Nat} (hg : w.heap[g]? = some (.cells cs t fr)) (ht : e ≠ t) : ∀ k, v.ownBlock = some k → k ≠ g := by
  intro k hk
  rcases h.own.2 with ⟨h1, _⟩ | ⟨g', cap, cur, hv, _, h2, _⟩
  · rw [h1] at hk; cases hk
  · rw [hv] at hk
    injection hk with hk
    subst hk
    exact blk_ne h2 hg ht
theorem ow_ne2 {w : World} {S S' : Nat → Prop} {e e' : TypeId} {sz sz' : Nat} {v v' : Value} {n n' : Nat} {xs xs' : List Value} (h : Ow w S e sz v n xs) (h' : Ow w S' e' sz' v' n' xs') (ht : e ≠ e') : ∀ k, v.ownBlock = some k → v'.ownBlock ≠ some k := by
  intro k hk hk'
  rcases h'.own.2 with ⟨h1, _⟩ | ⟨g', cap, cur, hv, _, h2, _⟩
  · rw [h1] at hk'; cases hk'
  · rw [hv] at hk'
    injection hk' with hk'
    subst hk'
    exact ow_ne h h2 ht _ hk rfl
theorem ow_nem {w : World} {S : Nat → Prop} {e : TypeId} {sz : Nat} {v : Value} {n : Nat} {xs : List Value} (h : Ow w S e sz v n xs) {m : Nat} {f : Int → Option ByteArray} (hm : MP w m f) : ∀ k, v.ownBlock = some k → k ≠ m := by
  intro k hk
  rcases h.own.2 with ⟨h1, _⟩ | ⟨g', cap, cur, hv, _, h2, _⟩
  · rw [h1] at hk; cases hk
  · rw [hv] at hk
    injection hk with hk
    subst hk
    exact (MP.ne_cells hm h2).symm
abbrev TD : TypeId := 81
abbrev TW : TypeId := 84
abbrev TS : TypeId := 9
structure DV (w : World) (S : Nat → Prop) (g : Nat) (d : DS) (f : Int → Option ByteArray) (sv rv : Value) (m : Nat) : Prop where
  blk : w.heap[g]? = some (.cells #[sv, rv, .map (some m), .bool d.gone, .int .i64 d.fuse] TD (0, 0))
  safe : Ow w S TS 1 sv d.safe.length (d.safe.map .string)
  row : Ow w S TW 2 rv d.row.length (wc d.row)
  map : MP w m f
  sg : S g
  sm : S m
/-- Pointer g's disk is d; all its blocks lie in S. -/
def DK (w : World) (S : Nat → Prop) (g : Nat) (d : DS) : Prop := ∃ sv rv m, DV w S g d (lastOf d.row) sv rv m
section
variable {w w' : World} {S S2 : Nat → Prop} {g : Nat} {d : DS} {f : Int → Option ByteArray} {sv rv : Value} {m : Nat}
theorem DV.lt (h : DV w S g d f sv rv m) : g < w.heap.size := by
  rcases Nat.lt_or_ge g w.heap.size with h1 | h1
  · exact h1
  · have := h.blk; simp [Array.getElem?_eq_none h1] at this
theorem DV.mono (h : DV w S g d f sv rv m) (hs : ∀ k, k < w.heap.size → S k → S2 k) : DV w S2 g d f sv rv m :=
  ⟨h.blk, h.safe.mono hs, h.row.mono hs, h.map, hs g h.lt h.sg, hs m h.map.lt h.sm⟩
theorem DV.kept (h : DV w S g d f sv rv m) (hf : FS S2 w w') (hd : ∀ k, S k → ¬ S2 k) : DV w' S g d f sv rv m :=
  ⟨hf.old h.blk (hd g h.sg), h.safe.kept hf hd, h.row.kept hf hd, h.map.same (hf.block m h.map.lt (hd m h.sm)), h.sg, h.sm⟩
theorem DV.below (h : DV w S g d f sv rv m) (hb : Below w.heap.size w w') : DV w' S g d f sv rv m :=
  ⟨(hb.block g h.lt).trans h.blk, h.safe.same fun k hk => hb.block k (h.safe.own.lt k hk).2, h.row.same fun k hk => hb.block k (h.row.own.lt k hk).2, h.map.same (hb.block m h.map.lt), h.sg, h.sm⟩
theorem DV.drew (h : DV w S g d f sv rv m) : DV w.drew S g d f sv rv m := h.below ((Below.refl _ _).drew)
theorem DV.setg (h : DV w S g d f sv rv m) (i : Nat) (u : Value) {d' : DS} {rv' : Value} (hc : #[sv, rv, .map (some m), .bool d.gone, .int .i64 d.fuse].setIfInBounds i u = #[sv, rv', .map (some m), .bool d'.gone, .int .i64 d'.fuse]) (hs : d'.safe = d.safe) (hr : Ow w S TW 2 rv' d'.row.length (wc d'.row)) : DV (w.setCell ⟨g, i, none⟩ u) S g d' f sv rv' m := by
  have hb : (w.setCell ⟨g, i, none⟩ u).heap[g]? = some (.cells #[sv, rv', .map (some m), .bool d'.gone, .int .i64 d'.fuse] TD (0, 0)) := by
    simp only [World.setCell]
    rw [Array.getElem?_modify, if_pos rfl, h.blk, ← hc]
    rfl
  refine ⟨hb, ?_, hr.same fun k hk => Below.heap_setCell w ⟨g, i, none⟩ u k (ow_ne hr h.blk (by decide) k hk), h.map.same (Below.heap_setCell w ⟨g, i, none⟩ u m (MP.ne_cells h.map h.blk)), h.sg, h.sm⟩
  rw [hs]
  exact h.safe.same fun k hk => Below.heap_setCell w ⟨g, i, none⟩ u k (ow_ne h.safe h.blk (by decide) k hk)
theorem DV.set_gone (h : DV w S g d f sv rv m) (b : Bool) : DV (w.setCell ⟨g, 3, none⟩ (.bool b)) S g { d with gone := b } f sv rv m := h.setg 3 (.bool b) rfl rfl h.row
theorem DV.set_fuse (h : DV w S g d f sv rv m) (b : Int) : DV (w.setCell ⟨g, 4, none⟩ (.int .i64 b)) S g { d with fuse := b } f sv rv m := h.setg 4 (.int .i64 b) rfl rfl h.row
theorem DV.set_row (h : DV w S g d f sv rv m) {rv' : Value} {row' : List (Int × ByteArray)} (hr : Ow w S TW 2 rv' row'.length (wc row')) : DV (w.setCell ⟨g, 1, none⟩ rv') S g { d with row := row' } f sv rv' m := h.setg 1 rv' rfl rfl hr
theorem DV.set_map (h : DV w S g d f sv rv m) {o : Obj} {f' : Int → Option ByteArray} (ho : MP (setBlock w m o) m f') : DV (setBlock w m o) S g d f' sv rv m :=
  ⟨(setBlock_other w m o (MP.ne_cells h.map h.blk).symm).trans h.blk, h.safe.same fun k hk => setBlock_other w m o (ow_nem h.safe h.map k hk), h.row.same fun k hk => setBlock_other w m o (ow_nem h.row h.map k hk), ho, h.sg, h.sm⟩
theorem DV.set_safe {bs n c : Nat} (h : DV w S g d f (.slice (some ⟨bs, 0, none⟩) n c) rv m) (j : Nat) (hj : j < d.safe.length) (s : ByteArray) : DV (w.setCell ⟨bs, j, none⟩ (.string s)) S g { d with safe := d.safe.set j s } f (.slice (some ⟨bs, 0, none⟩) n c) rv m := by
  have hn : n = d.safe.length := by
    obtain ⟨A, c', e, _⟩ := h.safe.shape
    injection e
  subst hn
  have hne := ow_ne h.safe h.blk (by decide) bs rfl
  have hput := h.safe.put j (by omega) (.string s)
  refine ⟨(Below.heap_setCell w ⟨bs, j, none⟩ _ g hne.symm).trans h.blk, ?_, h.row.same fun k hk => Below.heap_setCell w ⟨bs, j, none⟩ _ k (fun e => ow_ne2 h.row h.safe (by decide) k hk (by rw [e]; rfl)), h.map.same (Below.heap_setCell w ⟨bs, j, none⟩ _ m (ow_nem h.safe h.map bs rfl).symm), h.sg, h.sm⟩
  show Ow _ S TS 1 _ (d.safe.set j s).length ((d.safe.set j s).map .string)
  rw [List.length_set, List.map_set]
  exact hput
/-- The cells of its block. -/
theorem DV.cells (h : DV w S g d f sv rv m) : (w.cell? ⟨g, 0, none⟩ = some sv ∧ w.cell? ⟨g, 1, none⟩ = some rv ∧ w.cell? ⟨g, 2, none⟩ = some (.map (some m)) ∧ w.cell? ⟨g, 3, none⟩ = some (.bool d.gone) ∧ w.cell? ⟨g, 4, none⟩ = some (.int .i64 d.fuse)) ∧ (∀ i, w.frozen? ⟨g, i, none⟩ = false) := by
  have hb := h.blk
  refine ⟨⟨?_, ?_, ?_, ?_, ?_⟩, fun i => ?_⟩
  all_goals (simp only [World.cell?, World.frozen?, hb]; try rfl)
end
theorem DV.dk {w : World} {S : Nat → Prop} {g : Nat} {d : DS} {sv rv : Value} {m : Nat} (h : DV w S g d (lastOf d.row) sv rv m) : DK w S g d := ⟨sv, rv, m, h⟩
theorem DK.lt {w : World} {S : Nat → Prop} {g : Nat} {d : DS} (h : DK w S g d) : g < w.heap.size := by obtain ⟨_, _, _, h⟩ := h; exact h.lt
theorem DK.mono {w : World} {S S2 : Nat → Prop} {g : Nat} {d : DS} (h : DK w S g d) (hs : ∀ k, k < w.heap.size → S k → S2 k) : DK w S2 g d := by obtain ⟨a, b, c, h⟩ := h; exact ⟨a, b, c, h.mono hs⟩
theorem DK.kept {w w' : World} {S S2 : Nat → Prop} {g : Nat} {d : DS} (h : DK w S g d) (hf : FS S2 w w') (hd : ∀ k, S k → ¬ S2 k) : DK w' S g d := by obtain ⟨a, b, c, h⟩ := h; exact ⟨a, b, c, h.kept hf hd⟩
theorem DK.below {w w' : World} {S : Nat → Prop} {g : Nat} {d : DS} (h : DK w S g d) (hb : Below w.heap.size w w') : DK w' S g d := by obtain ⟨a, b, c, h⟩ := h; exact ⟨a, b, c, h.below hb⟩
theorem DK.drew {w : World} {S : Nat → Prop} {g : Nat} {d : DS} (h : DK w S g d) : DK w.drew S g d := h.below ((Below.refl _ _).drew)
/-- What the words do. -/
def OkD (d : DS) : Prop := d.row.length ≤ 1000000 ∧ -1 ≤ d.fuse ∧ d.fuse < 9223372036854775808 ∧ d.safe.length ≤ 512 ∧ ∀ p ∈ d.row, 0 ≤ p.1 ∧ p.1 < d.safe.length
theorem last_mem : ∀ {row : List (Int × ByteArray)} {k : Int} {s : ByteArray}, lastOf row k = some s → (k, s) ∈ row := by
  intro row k s h
  have gen : ∀ (l : List (Int × ByteArray)) (o : Option ByteArray), l.foldl (fun o p => if k = p.1 then some p.2 else o) o = some s → (k, s) ∈ l ∨ o = some s := by
    intro l
    induction l with
    | nil => intro o h; exact .inr h
    | cons p r ih =>
      intro o h
      rcases ih _ h with h1 | h1
      · exact .inl (List.mem_cons_of_mem _ h1)
      · replace h1 : (if k = p.1 then some p.2 else o) = some s := h1
        by_cases e : k = p.1
        · rw [if_pos e] at h1
          injection h1 with h1
          left
          rw [e, ← h1]
          exact List.mem_cons_self
        · rw [if_neg e] at h1
          exact .inr h1
  rcases gen row none h with h | h
  · exact h
  · cases h
def thereD (d : DS) (i : Int) : Bool := decide (0 ≤ i) && decide (i < d.safe.length)
def bearsE (d : DS) : Int := if d.gone = true ∨ d.fuse = 0 then 4 else 0
def bearsD (d : DS) : DS := if d.gone = true then d else if d.fuse = 0 then { d with gone := true } else if 0 < d.fuse then { d with fuse := d.fuse - 1 } else d
def pushD (d : DS) (i : Int) (s : ByteArray) : DS := { d with row := d.row ++ [(i, s)] }
def writeE (d : DS) (i : Int) (s : ByteArray) : Int := if thereD d i = false then 2 else if s.size ≠ 128 then 1 else bearsE d
def writeD (d : DS) (i : Int) (s : ByteArray) : DS := if thereD d i = false then d else if s.size ≠ 128 then d else if bearsE d ≠ 0 then bearsD d else pushD (bearsD d) i s
def overF (f : Int → Option ByteArray) (safe : List ByteArray) : List ByteArray := safe.mapIdx fun i s => (f i).getD s
def settleD (d : DS) : DS := { d with row := [] }
def syncE (d : DS) : Int := bearsE d
def syncD (d : DS) : DS := if bearsE d ≠ 0 then bearsD d else settleD { bearsD d with safe := overF (lastOf d.row) d.safe }
def readE (d : DS) (i : Int) : Int := if d.gone = true then 4 else if thereD d i = false then 2 else 0
def readS (d : DS) (i : Int) : ByteArray := if readE d i ≠ 0 then ⟨#[]⟩ else (lastOf d.row i).getD ((d.safe[i.toNat]?).getD ⟨#[]⟩)
theorem bears_eq (d : DS) : bearsD d = { d with gone := (bearsD d).gone, fuse := (bearsD d).fuse } := by
  unfold bearsD
  split
  · rfl
  · split
    · rfl
    · split <;> rfl
theorem bears_row (d : DS) : (bearsD d).row = d.row := by rw [bears_eq]
theorem bears_safe (d : DS) : (bearsD d).safe = d.safe := by rw [bears_eq]
end Go.Proofs.Ytbdfdfahpdilpaa.Dk
