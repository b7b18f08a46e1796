import Derived.Test.YtbdfdfahpdilpaaMp
import Derived.Laws.AppendOwn
/-! Owned rows, and what is touched: by block. -/
namespace Go.Proofs.Ytbdfdfahpdilpaa.Ow
open Go Go.RowKit Go.ChangeMaps Go.Proofs.Ytbdfdfahpdilpaa.Arr Go.Proofs.Ytbdfdfahpdilpaa.Mp
set_option linter.unusedVariables false
set_option linter.unusedSimpArgs false
/-- Nothing but blocks in S is touched. -/
structure FS (S : Nat → Prop) (w w' : World) : Prop where
  os : w'.os = w.os
  tape : w'.tape = w.tape
  output : w'.output = w.output
  size : w.heap.size ≤ w'.heap.size
  block : ∀ k, k < w.heap.size → ¬ S k → w'.heap[k]? = w.heap[k]?
theorem FS.refl (S : Nat → Prop) (w : World) : FS S w w := ⟨rfl, rfl, rfl, Nat.le_refl _, fun _ _ _ => rfl⟩
theorem FS.trans {S : Nat → Prop} {a b c : World} (h : FS S a b) (k : FS S b c) : FS S a c :=
  ⟨k.os.trans h.os, k.tape.trans h.tape, k.output.trans h.output, Nat.le_trans h.size k.size, fun i hi hn => (k.block i (Nat.lt_of_lt_of_le hi h.size) hn).trans (h.block i hi hn)⟩
/-- .. the second step may touch what is new behind the first's beginning, too. -/
theorem FS.step {S S2 : Nat → Prop} {a b c : World} (h : FS S a b) (k : FS S2 b c) (hs : ∀ i, S2 i → S i ∨ a.heap.size ≤ i) : FS S a c :=
  ⟨k.os.trans h.os, k.tape.trans h.tape, k.output.trans h.output, Nat.le_trans h.size k.size, fun i hi hn => (k.block i (Nat.lt_of_lt_of_le hi h.size) (fun e => (hs i e).elim hn (fun e2 => by omega))).trans (h.block i hi hn)⟩
theorem FS.below {S : Nat → Prop} {a b c : World} (h : FS S a b) (k : Below b.heap.size b c) : FS S a c :=
  h.step (S2 := fun _ => False) ⟨k.os, k.tape, k.output, k.size, fun i hi _ => k.block i hi⟩ (fun _ e => e.elim)
theorem FS.drew {S : Nat → Prop} {a b : World} (h : FS S a b) : FS S a b.drew := ⟨h.os, h.tape, h.output, h.size, h.block⟩
theorem FS.alloc {S : Nat → Prop} {a b : World} (h : FS S a b) (o : Obj) : FS S a (b.alloc o) :=
  h.below ((Below.refl _ _).alloc (Nat.le_refl _) _)
theorem FS.setCell {S : Nat → Prop} {a b : World} (h : FS S a b) {p : Addr} (hp : S p.block ∨ a.heap.size ≤ p.block) (v : Value) : FS S a (b.setCell p v) :=
  h.step (S2 := fun k => k = p.block) ⟨rfl, rfl, rfl, by simp [World.setCell], fun i _ hn => Below.heap_setCell b p v i hn⟩ (fun i e => by subst e; exact hp)
theorem FS.setBlock {S : Nat → Prop} {a b : World} (h : FS S a b) {m : Nat} (hp : S m ∨ a.heap.size ≤ m) (o : Obj) : FS S a (setBlock b m o) :=
  h.step (S2 := fun k => k = m) ⟨rfl, rfl, rfl, Nat.le_of_eq (setBlock_size b m o).symm, fun i _ hn => setBlock_other b m o hn⟩ (fun i e => by subst e; exact hp)
theorem FS.grown {S : Nat → Prop} {a b c : World} {row : Option Nat} (h : FS S a b) (hg : b.grownBy c row) (hr : ∀ k, row = some k → S k ∨ a.heap.size ≤ k) : FS S a c :=
  h.step (S2 := fun k => row = some k) ⟨hg.os, hg.tape, hg.output, hg.size, fun i hi hn => hg.block i hi (fun e => hn e.symm)⟩ (fun i e => hr i e)
theorem FS.of_below {B : Nat} {w w' : World} (h : Below B w w') : FS (B ≤ ·) w w' := ⟨h.os, h.tape, h.output, h.size, fun k _ hn => h.block k (by omega)⟩
theorem FS.to_below {w0 w w' : World} {S : Nat → Prop} (h0 : Below w0.heap.size w0 w) (h : FS S w w') (hS : ∀ k, S k → w0.heap.size ≤ k) : Below w0.heap.size w0 w' :=
  h0.trans ⟨h.os, h.tape, h.output, h.size, fun k hk => h.block k (Nat.lt_of_lt_of_le hk h0.size) (fun e => by have := hS k e; omega)⟩
theorem FS.mono {S S2 : Nat → Prop} {w w' : World} (h : FS S w w') (hs : ∀ k, k < w.heap.size → S k → S2 k) : FS S2 w w' := ⟨h.os, h.tape, h.output, h.size, fun k hk hn => h.block k hk (fun e => hn (hs k hk e))⟩
theorem FS.old {S : Nat → Prop} {w w' : World} (h : FS S w w') {k : Nat} {o : Obj} (hk : w.heap[k]? = some o) (hn : ¬ S k) : w'.heap[k]? = some o := by
  have hl : k < w.heap.size := by
    rcases Nat.lt_or_ge k w.heap.size with h1 | h1
    · exact h1
    · simp [Array.getElem?_eq_none h1] at hk
  exact (h.block k hl hn).trans hk
/-- A row of cells in a block of its own, that lies in S. -/
structure Ow (w : World) (S : Nat → Prop) (e : TypeId) (sz : Nat) (v : Value) (n : Nat) (xs : List Value) : Prop where
  own : w.ownsRow 0 e sz v n xs
  mem : ∀ k, v.ownBlock = some k → S k
theorem Ow.nil (w : World) (S : Nat → Prop) (e : TypeId) (sz : Nat) : Ow w S e sz (.slice none 0 0) 0 [] := ⟨World.ownsRow_nil w 0 e sz, fun _ h => by cases h⟩
theorem Ow.mono {w : World} {S S2 : Nat → Prop} {e : TypeId} {sz : Nat} {v : Value} {n : Nat} {xs : List Value} (h : Ow w S e sz v n xs) (hs : ∀ k, k < w.heap.size → S k → S2 k) : Ow w S2 e sz v n xs :=
  ⟨h.own, fun k hk => hs k (h.own.lt k hk).2 (h.mem k hk)⟩
theorem Ow.kept {w w' : World} {S S2 : Nat → Prop} {e : TypeId} {sz : Nat} {v : Value} {n : Nat} {xs : List Value} (h : Ow w S e sz v n xs) (hf : FS S2 w w') (hd : ∀ k, S k → ¬ S2 k) : Ow w' S e sz v n xs := by
  refine ⟨?_, h.mem⟩
  obtain ⟨hl, h1⟩ := h.own
  refine ⟨hl, ?_⟩
  rcases h1 with h1 | ⟨g, cap, cur, hv, hb, hg, r⟩
  · exact .inl h1
  · exact .inr ⟨g, cap, cur, hv, hb, hf.old hg (hd g (h.mem g (by rw [hv]; rfl))), r⟩
/-- .. if its own block is as it was. -/
theorem Ow.same {w w' : World} {S : Nat → Prop} {e : TypeId} {sz : Nat} {v : Value} {n : Nat} {xs : List Value} (h : Ow w S e sz v n xs) (hf : ∀ k, v.ownBlock = some k → w'.heap[k]? = w.heap[k]?) : Ow w' S e sz v n xs := by
  refine ⟨?_, h.mem⟩
  obtain ⟨hl, h1⟩ := h.own
  refine ⟨hl, ?_⟩
  rcases h1 with h1 | ⟨g, cap, cur, hv, hb, hg, r⟩
  · exact .inl h1
  · exact .inr ⟨g, cap, cur, hv, hb, (hf g (by rw [hv]; rfl)).trans hg, r⟩
/-- What a row is, opened. -/
theorem Ow.shape {w : World} {S : Nat → Prop} {e : TypeId} {sz : Nat} {v : Value} {n : Nat} {xs : List Value} (h : Ow w S e sz v n xs) : ∃ A c, v = .slice A n c ∧ n ≤ c ∧ c ≤ maxLen ∧ xs.length = n * sz := by
  obtain ⟨hl, h1⟩ := h.own
  rcases h1 with ⟨rfl, rfl⟩ | ⟨g, cap, cur, hv, hb, hg, h2, h3, h4, h5⟩
  · exact ⟨none, 0, rfl, Nat.le_refl _, by decide, hl⟩
  · exact ⟨some ⟨g, 0, none⟩, cap, hv, h2, h3, hl⟩
theorem Ow.open {w : World} {S : Nat → Prop} {e : TypeId} {sz : Nat} {v : Value} {n : Nat} {xs : List Value} (h : Ow w S e sz v n xs) (hn : 0 < n) : ∃ g c cur, v = .slice (some ⟨g, 0, none⟩) n c ∧ S g ∧ w.heap[g]? = some (.cells cur e (0, 0)) ∧ n ≤ c ∧ c ≤ maxLen ∧ cur.size = c * sz ∧ cur.toList.take (n * sz) = xs := by
  obtain ⟨hl, h1⟩ := h.own
  rcases h1 with ⟨rfl, rfl⟩ | ⟨g, cap, cur, hv, hb, hg, r⟩
  · omega
  · exact ⟨g, cap, cur, hv, h.mem g (by rw [hv]; rfl), hg, r⟩
theorem take_get {α : Type} {l : List α} {n j : Nat} {x : α} (h : (l.take n)[j]? = some x) : l[j]? = some x := by
  rw [List.getElem?_take] at h
  split at h
  · exact h
  · cases h
theorem cell_of {w : World} {g : Nat} {cur : Array Value} {e : TypeId} {xs : List Value} {n j : Nat} {x : Value} (hg : w.heap[g]? = some (.cells cur e (0, 0))) (ht : cur.toList.take n = xs) (hx : xs[j]? = some x) : w.cell? ⟨g, j, none⟩ = some x := by
  have h1 : cur.toList[j]? = some x := take_get (n := n) (by rw [ht]; exact hx)
  simp only [World.cell?, hg]
  simpa using h1
/-- A cell of it is written. -/
theorem Ow.put {w : World} {S : Nat → Prop} {e : TypeId} {sz n c g : Nat} {xs : List Value} (h : Ow w S e sz (.slice (some ⟨g, 0, none⟩) n c) n xs) (j : Nat) (hj : j < n * sz) (u : Value) : Ow (w.setCell ⟨g, j, none⟩ u) S e sz (.slice (some ⟨g, 0, none⟩) n c) n (xs.set j u) := by
  refine ⟨?_, h.mem⟩
  obtain ⟨hl, h1⟩ := h.own
  refine ⟨by rw [List.length_set]; exact hl, ?_⟩
  rcases h1 with ⟨h1, _⟩ | ⟨g', cap, cur, hv, hb, hg, h2, h3, h4, h5⟩
  · cases h1
  · cases hv
    refine .inr ⟨g, c, cur.setIfInBounds j u, rfl, hb, ?_, h2, h3, by simpa using h4, ?_⟩
    · have hl2 : g < w.heap.size := by
        rcases Nat.lt_or_ge g w.heap.size with h1 | h1
        · exact h1
        · simp [Array.getElem?_eq_none h1] at hg
      simp only [World.setCell]
      rw [Array.getElem?_modify, if_pos rfl, hg]
      rfl
    · rw [Array.toList_setIfInBounds, List.take_set, h5]
theorem grownBy_rfl (w : World) (row : Option Nat) : w.grownBy w row := ⟨rfl, rfl, rfl, Nat.le_refl _, fun _ _ _ => rfl⟩
/-- 'append(v, x...)': in the block that there is, or in a new one. -/
theorem run_append_ow {P : Program} {w : World} {S : Nat → Prop} (t ty e : TypeId) (i : TypeInfo) (z : Value) (size bytes : Nat) (ht : P.underlying t = some (.slice e)) (hi : P.info? e = some i) (hz : i.zero = some z)
    (hsize : i.size = size) (hby : i.bytes = bytes) (hzs : z.cells.size = size) (hsz : 0 < size)
    (v : Value) (n : Nat) (xs : List Value) (h : Ow w S e size v n xs)
    (a : Addr) (m c : Nat) (news : List Value) (hl : news.length = m * size) (hnews : ∀ j u, news[j]? = some u → w.cell? (a.add j) = some u) (h1 : ∀ u ∈ news, u.oneCell' = true)
    (h63 : n + m ≤ maxLen) (hbytes : (n + m) * bytes ≤ 140737488355328) (hm : 0 < m) :
    ∃ v' w', (Builtin.append_ #[t, t] ty #[v, .slice (some a) m c]).run P w = .ok v' w' ∧ Ow w' (fun k => S k ∨ k = w.heap.size) e size v' (n + m) (xs ++ news) ∧ w.grownBy w' v.ownBlock ∧ (v'.ownBlock = v.ownBlock ∨ v'.ownBlock = some w.heap.size) ∧ ∃ g' c', v' = .slice (some ⟨g', 0, none⟩) (n + m) c' := by
  obtain ⟨v', w', hr, ho, hg, _⟩ := run_append_own w 0 t ty e i z size bytes ht hi hz hsize hby hzs hsz v n xs h.own a m c news hl hnews h1 h63 hbytes (Nat.zero_le _)
  have key : (v'.ownBlock = v.ownBlock ∨ v'.ownBlock = some w.heap.size) ∧ ∃ g' c', v' = .slice (some ⟨g', 0, none⟩) (n + m) c' := by
    subst hsize
    subst hby
    have hsmall : n + m ≤ 9223372036854775807 := by simp only [maxLen] at h63; omega
    rcases h.own.2 with ⟨rfl, rfl⟩ | ⟨g, cap, cur, rfl, hbg, hgc, hnc, hcm, hcs, htake⟩
    · have hr2 := run_append_nil (P := P) w t ty e i z ht hi hz a m c news hl hnews (by omega) (by omega) (by have hb := hbytes; simp only [Nat.zero_add] at hb; omega)
      rw [hr] at hr2
      injection hr2 with e1 e2
      rw [e1, Nat.zero_add]
      exact ⟨.inr rfl, _, _, rfl⟩
    · by_cases hroom : n + m ≤ cap
      · have hfit : n * i.size + news.length ≤ cur.size := by rw [hl, hcs, ← Nat.add_mul]; exact Nat.mul_le_mul_right _ hroom
        have hr2 := run_append_room (P := P) w t ty e i ht hi g n cap cur hgc a m c news hl hnews h1 hroom hfit
        rw [hr] at hr2
        injection hr2 with e1 e2
        rw [e1]
        exact ⟨.inl rfl, _, _, rfl⟩
      · have holds : ∀ j u, xs[j]? = some u → w.cell? ((⟨g, 0, none⟩ : Addr).add j) = some u := h.own.cells (g := g) rfl
        have hr2 := run_append_grow (P := P) w t ty e i z ht hi hz ⟨g, 0, none⟩ n cap xs h.own.1 holds a m c news hl hnews (by omega) (by omega) (growslice_fits (by omega) hbytes)
        rw [hr] at hr2
        injection hr2 with e1 e2
        rw [e1]
        exact ⟨.inr rfl, _, _, rfl⟩
  refine ⟨v', w', hr, ⟨ho, fun k hk => ?_⟩, hg, key⟩
  rcases key.1 with e1 | e1
  · exact .inl (h.mem k (e1 ▸ hk))
  · rw [e1] at hk
    exact .inr (by injection hk with hk; exact hk.symm)
/-- 'append' at the operation, its run known. -/
theorem ev_append {P : Program} {ops : Array Oper} {rest : List Oper} {o : Oper} {a : Act} {Q : Exit → Act → World → Prop} {W w1 : World} {v : Value} (s x : Operand) (t : TypeId) (hgd : o.guard = none)
    (ho : o.op = .call { callee := .builtin .append, args := #[s, x], argTypes := #[t, t] }) (v1 v2 : Value) (hs : a.eval s = v1) (hx : a.eval x = v2) (hr : (Builtin.append_ #[t, t] o.type #[v1, v2]).run P W = .ok v w1) (h : wpList P ops Q rest (a.put o.dst v) w1) : wpList P ops Q (o :: rest) a W := by
  refine wpList_plain hgd fun _ hK => ?_
  unfold Oper.wp execOp
  simp only [ho, resolve, invoke, builtin, Sem.run_bind, Sem.run_pure, Result.andThen_ok, List.map_toArray, List.map_cons, List.map_nil, hs, hx, hr]
  exact hK _ _ h
theorem ev_copy {P : Program} {ops : Array Oper} {rest : List Oper} {o : Oper} {a : Act} {Q : Exit → Act → World → Prop} {W w1 : World} {v : Value} (s x : Operand) (t t2 : TypeId) (hgd : o.guard = none)
    (ho : o.op = .call { callee := .builtin .copy, args := #[s, x], argTypes := #[t, t2] }) (v1 v2 : Value) (hs : a.eval s = v1) (hx : a.eval x = v2) (hr : (Builtin.copy_ #[t, t2] o.type #[v1, v2]).run P W = .ok v w1) (h : wpList P ops Q rest (a.put o.dst v) w1) : wpList P ops Q (o :: rest) a W := by
  refine wpList_plain hgd fun _ hK => ?_
  unfold Oper.wp execOp
  simp only [ho, resolve, invoke, builtin, Sem.run_bind, Sem.run_pure, Result.andThen_ok, List.map_toArray, List.map_cons, List.map_nil, hs, hx, hr]
  exact hK _ _ h
theorem ev_make {P : Program} {ops : Array Oper} {rest : List Oper} {o : Oper} {a : Act} {Q : Exit → Act → World → Prop} {W w1 : World} {v : Value} (s x : Operand) (t : TypeId) (hgd : o.guard = none)
    (ho : o.op = .makeSlice t s x) (v1 v2 : Value) (hs : a.eval s = v1) (hx : a.eval x = v2) (hr : (Instr.makeSlice t v1 v2).run P W = .ok v w1) (h : wpList P ops Q rest (a.put o.dst v) w1) : wpList P ops Q (o :: rest) a W := by
  refine wpList_plain hgd fun _ hK => ?_
  unfold Oper.wp execOp
  simp only [ho, Sem.run_bind, Sem.run_pure, Result.andThen_ok, hs, hx, hr]
  exact hK _ _ h
theorem made_one (z : Value) (n : Nat) : madeCells #[z] n = (List.replicate n z).toArray := by
  unfold madeCells
  apply Array.toList_inj.1
  apply List.ext_getElem?
  intro i
  simp [List.getElem?_replicate, Nat.mod_one]
  by_cases h : i < n
  · simp [h]
  · simp [h]
theorem FS.pre {S : Nat → Prop} {a b c : World} (h : Below a.heap.size a b) (k : FS S b c) (hs : ∀ i, S i → i < b.heap.size → i < a.heap.size → S i) : FS S a c :=
  ⟨k.os.trans h.os, k.tape.trans h.tape, k.output.trans h.output, Nat.le_trans h.size k.size, fun i hi hn => (k.block i (Nat.lt_of_lt_of_le hi h.size) hn).trans (h.block i hi)⟩
end Go.Proofs.Ytbdfdfahpdilpaa.Ow
