import Derived.Test.YtbdfdfahpdilpaaDk
/-! A loop over a map of strings by ints, whose rounds write elsewhere. -/
namespace Go.Proofs.Ytbdfdfahpdilpaa.Dk
open Go Go.RowKit Go.ChangeMaps Go.Proofs.Ytbdfdfahpdilpaa.Arr Go.Proofs.Ytbdfdfahpdilpaa.Mp Go.Proofs.Ytbdfdfahpdilpaa.Ow
set_option linter.unusedVariables false
set_option linter.unusedSimpArgs false
section
variable {P : Program}
theorem run_next_at (W : World) (ty : TypeId) (r m since c0 : Nat) (seen : Array Nat) (es : Array MapEntry) (clock : Nat) (hr : W.heap[r]? = some (.mapIter (some m) since seen c0)) (hb : W.heap[m]? = some (.map es clock)) (hold : ∀ x ∈ es.toList, x.born < since) (hsc : since ≤ c0) :
    ((leftOf es seen).size = 0 ∧ (Instr.next (.pointer (some ⟨r, 0, none⟩)) false ty).run P W = .ok (.tuple #[.bool false]) W) ∨
    ∃ e ∈ (leftOf es seen).toList, ∃ W1 : World, (W1 = W ∨ W1 = W.drew) ∧ (Instr.next (.pointer (some ⟨r, 0, none⟩)) false ty).run P W = .ok (.tuple #[.bool true, e.key, e.val]) (setBlock W1 r (.mapIter (some m) since (seen.push e.born) clock)) := by
  simp only [Instr.next, getObj, Sem.run_bind, Sem.run, hr, hb, Result.andThen, next_test_false seen es since c0 hold hsc, Bool.false_eq_true, if_false]
  unfold leftOf
  have hmem : ∀ x ∈ (Array.filter (fun e => !seen.contains e.born) es).toList, x.born < since := fun x hx => hold x (by simp at hx ⊢; exact hx.1)
  generalize Array.filter (fun e => !seen.contains e.born) es = L at hmem ⊢
  have e1 : L.filter (fun x => decide (x.born < since)) = L := Array.filter_eq_self.2 (fun x hx => by simpa using hmem x (by simpa using hx))
  have e2 : L.filter (fun x => decide (x.born ≥ since)) = #[] := by
    rw [Array.filter_eq_empty_iff]
    intro x hx
    have := hmem x (by simpa using hx)
    simp
    omega
  simp only [e1, e2, Array.append_empty]
  by_cases h0 : L.size = 0
  · left
    have : L = #[] := Array.eq_empty_of_size_eq_zero h0
    subst this
    refine ⟨rfl, ?_⟩
    simp [choose, Sem.run, Question.forced]
  · right
    have hne : L.isEmpty = false := by simp [Array.isEmpty, h0]
    simp only [hne, Bool.false_eq_true, if_false, Array.empty_append, Array.size_map]
    have hch : ∃ (j : Nat) (w1 : World), j < L.size ∧ (w1 = W ∨ w1 = W.drew) ∧ (choose (Question.mapNext L.size)).run P W = .ok j w1 := by
      by_cases hf : L.size ≤ 1
      · exact ⟨0, W, by omega, .inl rfl, by simp [choose, Sem.run, Question.forced, hf]⟩
      · exact ⟨_, W.drew, Nat.mod_lt _ (by omega), .inr rfl, by
          simp only [choose, Sem.run, Question.forced, decide_eq_true_eq, hf, if_false, Question.cut]
          rfl⟩
    obtain ⟨j, w1, hj, hal, hrun⟩ := hch
    refine ⟨L[j], by simp, w1, hal, ?_⟩
    have hr1 : w1.heap[r]? = some (.mapIter (some m) since seen c0) := by rcases hal with rfl | rfl <;> exact hr
    have hset : ∀ (o' : Obj), (setObj r o').run P w1 = .ok () (setBlock w1 r o') := fun o' => by
      simp only [setObj, Sem.run]
      rw [hr1]
      rfl
    simp only [hrun, Array.getElem?_map, Array.getElem?_eq_getElem hj, Option.map_some, Sem.run_bind, hset, Result.andThen]
    rfl
theorem run_entry_at (W : World) (r m since : Nat) (seen : Array Nat) (es : Array MapEntry) (clock : Nat) (e : MapEntry) (hr : W.heap[r]? = some (.mapIter (some m) since (seen.push e.born) clock)) (hb : W.heap[m]? = some (.map es clock)) (he : e ∈ es.toList) (hn : (es.toList.map (·.born)).Nodup) :
    (Instr.entry (.pointer (some ⟨r, 0, none⟩))).run P W = .ok (.tuple #[e.key, e.val]) W := by
  have hf : es.find? (·.born == e.born) = some e := by rw [← Array.find?_toList]; exact find_born e es.toList hn he
  simp only [Instr.entry, getObj, Sem.run_bind, Sem.run, hr, hb, Result.andThen, Array.back?_push, bne_self_eq_false, Bool.false_eq_true, if_false, hf]
  rfl
end
theorem iter_ne {w : World} {r g : Nat} {a : Option Nat} {b c : Nat} {s : Array Nat} {cs : Array Value} {t : TypeId} {fr : Nat × Nat} (hr : w.heap[r]? = some (.mapIter a b s c)) (hg : w.heap[g]? = some (.cells cs t fr)) : g ≠ r := by
  intro e
  subst e
  rw [hg] at hr
  cases hr
theorem iter_own {w : World} {S : Nat → Prop} {e : TypeId} {sz : Nat} {v : Value} {n : Nat} {xs : List Value} (h : Ow w S e sz v n xs) {r : Nat} {a : Option Nat} {b c : Nat} {s : Array Nat} (hr : w.heap[r]? = some (.mapIter a b s c)) : ∀ k, v.ownBlock = some k → k ≠ r := by
  intro k hk
  rcases h.own.2 with ⟨h1, _⟩ | ⟨g', cap, cur, hv, _, h2, _⟩
  · rw [h1] at hk; cases hk
  · rw [hv] at hk
    injection hk with hk
    subst hk
    exact iter_ne hr h2
theorem DV.iter {w : World} {S : Nat → Prop} {g : Nat} {d : DS} {f : Int → Option ByteArray} {sv rv : Value} {m : Nat} (h : DV w S g d f sv rv m) {r : Nat} {a : Option Nat} {b c : Nat} {s : Array Nat} (hr : w.heap[r]? = some (.mapIter a b s c)) (o : Obj) : DV (setBlock w r o) S g d f sv rv m :=
  ⟨(setBlock_other w r o (iter_ne hr h.blk)).trans h.blk, h.safe.same fun k hk => setBlock_other w r o (iter_own h.safe hr k hk), h.row.same fun k hk => setBlock_other w r o (iter_own h.row hr k hk), h.map.same (setBlock_other w r o (fun e => by
    obtain ⟨L, c', h1, _⟩ := h.map
    rw [e, hr] at h1
    cases h1)), h.sg, h.sm⟩
theorem iterSeen_of {w : World} {r : Nat} {a : Option Nat} {b c : Nat} {s : Array Nat} (hr : w.heap[r]? = some (.mapIter a b s c)) : w.iterSeen r = s := by
  unfold World.iterSeen
  rw [hr]
/-- What was handed out so far, by key. -/
def outM (L : List En) (seen : Array Nat) (i : Int) : Option ByteArray := (L.find? fun p => decide (i = p.1) && seen.contains p.2.2).map (·.2.1)
theorem out_nil (L : List En) : outM L #[] = fun _ => none := by
  funext i
  unfold outM
  rw [List.find?_eq_none.2]
  · rfl
  · intro p _
    simp
theorem out_all (L : List En) (seen : Array Nat) (h : ∀ p ∈ L, seen.contains p.2.2 = true) (i : Int) : outM L seen i = getM L i := by
  induction L with
  | nil => rfl
  | cons p r ih =>
    have h1 := h p (by simp)
    have ih := ih (fun q hq => h q (by simp [hq]))
    unfold outM at ih ⊢
    unfold getM
    rw [List.find?_cons]
    by_cases e : i = p.1
    · rw [if_pos e, decide_eq_true e, h1]; rfl
    · rw [if_neg e, decide_eq_false e]; exact ih
theorem out_push (L : List En) (c : Nat) (hi : MI L c) (seen : Array Nat) (k : Int) (v : ByteArray) (b : Nat) (hm : (k, v, b) ∈ L) (i : Int) : outM L (seen.push b) i = if i = k then some v else outM L seen i := by
  have hk := hi.keys
  have hb := hi.borns
  clear hi
  induction L with
  | nil => cases hm
  | cons p r ih =>
    have hk' := List.nodup_cons.1 hk
    have hb' := List.nodup_cons.1 hb
    unfold outM at ih ⊢
    rw [List.find?_cons, List.find?_cons, contains_push]
    rcases List.mem_cons.1 hm with rfl | hm
    · by_cases e : i = k
      · rw [if_pos e, decide_eq_true e]
        simp
      · rw [if_neg e, decide_eq_false e]
        simp only [Bool.false_and]
        congr 1
        have : ∀ (l : List En), b ∉ l.map (fun x => x.2.2) → l.find? (fun p => decide (i = p.1) && (seen.push b).contains p.2.2) = l.find? (fun p => decide (i = p.1) && seen.contains p.2.2) := by
          intro l
          induction l with
          | nil => intro _; rfl
          | cons q l ih2 =>
            intro h
            rw [List.find?_cons, List.find?_cons, contains_push]
            have hq : (q.2.2 == b) = false := by
              rw [beq_eq_false_iff_ne]
              intro e2
              exact h (by rw [List.map_cons, ← e2]; exact List.mem_cons_self)
            rw [hq, Bool.or_false, ih2 (fun h2 => h (List.mem_cons_of_mem _ h2))]
        exact this r hb'.1
    · have hne : (p.2.2 == b) = false := by
        rw [beq_eq_false_iff_ne]
        intro e2
        exact hb'.1 (List.mem_map.2 ⟨_, hm, e2.symm⟩)
      have hne2 : k ≠ p.1 := fun e2 => hk'.1 (List.mem_map.2 ⟨_, hm, e2⟩)
      rw [hne, Bool.or_false]
      by_cases e : i = p.1
      · rw [decide_eq_true e, Bool.true_and]
        have : i ≠ k := fun e3 => hne2 (e3 ▸ e)
        rw [if_neg this]
        cases hs : seen.contains p.2.2 with
        | true => rfl
        | false =>
          simp only
          have := ih hm hk'.2 hb'.2
          rw [if_neg ‹i ≠ k›] at this
          exact this
      · rw [decide_eq_false e, Bool.false_and]
        simp only
        exact ih hm hk'.2 hb'.2
theorem over_none (safe : List ByteArray) : overF (fun _ => none) safe = safe := by
  apply List.ext_getElem?
  intro i
  simp [overF]
theorem over_length (f : Int → Option ByteArray) (safe : List ByteArray) : (overF f safe).length = safe.length := by simp [overF]
theorem over_set (f f' : Int → Option ByteArray) (safe : List ByteArray) (k : Int) (v : ByteArray) (h0 : 0 ≤ k) (h : ∀ i, f' i = if i = k then some v else f i) : (overF f safe).set k.toNat v = overF f' safe := by
  apply List.ext_getElem?
  intro i
  rw [List.getElem?_set]
  simp only [overF, List.getElem?_mapIdx, List.length_mapIdx]
  by_cases e : k.toNat = i
  · subst e
    rw [if_pos rfl]
    have ek : ((k.toNat : Nat) : Int) = k := by omega
    by_cases hl : k.toNat < safe.length
    · rw [if_pos hl, List.getElem?_eq_getElem hl]
      simp [h, ek]
    · rw [if_neg hl, List.getElem?_eq_none (by omega)]
      rfl
  · rw [if_neg e]
    cases safe[i]? with
    | none => rfl
    | some s =>
      have : ¬ ((i : Int) = k) := by omega
      simp [h, this]
theorem over_congr (f f' : Int → Option ByteArray) (safe : List ByteArray) (h : ∀ i, f i = f' i) : overF f safe = overF f' safe := by rw [funext h]
theorem left_seen {L : List En} {seen : Array Nat} (h : (leftOf (ents L) seen).size = 0) : ∀ p ∈ L, seen.contains p.2.2 = true := by
  intro p hp
  cases hc : seen.contains p.2.2 with
  | true => rfl
  | false =>
    have hm : ent p ∈ leftOf (ents L) seen := by
      unfold leftOf
      rw [Array.mem_filter]
      refine ⟨by simp [ents]; exact ⟨_, _, _, hp, rfl⟩, ?_⟩
      show (!seen.contains p.2.2) = true
      rw [hc]
      rfl
    have : leftOf (ents L) seen = #[] := Array.eq_empty_of_size_eq_zero h
    rw [this] at hm
    simp at hm
theorem left_mem {L : List En} {seen : Array Nat} {e : MapEntry} (h : e ∈ (leftOf (ents L) seen).toList) : ∃ p ∈ L, e = ent p := by
  have h1 := (mem_left h).1
  simp [ents] at h1
  obtain ⟨a, b, c, hm, he⟩ := h1
  exact ⟨(a, b, c), hm, he.symm⟩
end Go.Proofs.Ytbdfdfahpdilpaa.Dk
