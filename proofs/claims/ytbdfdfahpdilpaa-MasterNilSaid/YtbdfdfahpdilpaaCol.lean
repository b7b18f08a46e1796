import Derived.Test.YtbdfdfahpdilpaaDk
/-! Several things at once: each block has a colour; a call on one thing turns blocks of its colour alone. -/
namespace Go.Proofs.Ytbdfdfahpdilpaa.Dk
open Go Go.RowKit Go.ChangeMaps Go.Proofs.Ytbdfdfahpdilpaa.Arr Go.Proofs.Ytbdfdfahpdilpaa.Mp Go.Proofs.Ytbdfdfahpdilpaa.Ow
set_option linter.unusedVariables false
set_option linter.unusedSimpArgs false
def Col (c : Nat → Nat) (x : Nat) : Nat → Prop := fun k => c k = x
/-- From block n on all is of colour x. -/
def paint (c : Nat → Nat) (n x : Nat) : Nat → Nat := fun k => if k < n then c k else x
/-- What lay there ahead has colour 0. -/
def Olds (c : Nat → Nat) (B : Nat) : Prop := ∀ k, k < B → c k = 0
theorem paint_old {c : Nat → Nat} {n x k : Nat} (h : k < n) : paint c n x k = c k := by unfold paint; rw [if_pos h]
theorem paint_new {c : Nat → Nat} {n x k : Nat} (h : n ≤ k) : paint c n x k = x := by unfold paint; rw [if_neg (by omega)]
theorem top_paint (c : Nat → Nat) (w : World) (x : Nat) : Top (Col (paint c w.heap.size x) x) w := fun _ h => paint_new h
theorem Olds.paint {c : Nat → Nat} {B n : Nat} (h : Olds c B) (x : Nat) (hB : B ≤ n) : Olds (paint c n x) B := fun k hk => (paint_old (by omega)).trans (h k hk)
theorem olds_paint0 (B : Nat) (n x : Nat) (hB : B ≤ n) : Olds (Dk.paint (fun _ => 0) n x) B := fun k hk => paint_old (by omega)
theorem FS.base {c : Nat → Nat} {x B : Nat} {w w' : World} (hf : FS (Col (Dk.paint c w.heap.size x) x) w w') (ho : Olds c B) (hx : x ≠ 0) : FS (fun k => B ≤ k) w w' := hf.mono fun k hk e => by
  show B ≤ k
  have e2 : c k = x := (paint_old hk).symm.trans e
  rcases Nat.lt_or_ge k B with h | h
  · exact absurd (e2.symm.trans (ho k h)) hx
  · exact h
section
variable {c : Nat → Nat} {w w' : World} {x y g : Nat} {d : DS}
theorem DK.paint (h : DK w (Col c y) g d) (x : Nat) : DK w (Col (Dk.paint c w.heap.size x) y) g d := h.mono fun k hk e => (paint_old hk).trans e
theorem DK.apart (h : DK w (Col c y) g d) (hf : FS (Col (Dk.paint c w.heap.size x) x) w w') (hne : x ≠ y) : DK w' (Col (Dk.paint c w.heap.size x) y) g d :=
  (h.paint x).kept hf fun k hk e => hne (e.symm.trans hk)
theorem DK.fresh {n : Nat} (h : DK w' (fun k => n ≤ k) g d) (c : Nat → Nat) (x : Nat) : DK w' (Col (Dk.paint c n x) x) g d := h.mono fun k _ hk => paint_new hk
theorem Olds.fresh {n B : Nat} (hc : Olds c B) (h : DK w' (fun k => n ≤ k) g d) (x : Nat) : DK w' (Col (Dk.paint c n x) x) g d := h.fresh c x
theorem Ow.paint {e : TypeId} {sz : Nat} {v : Value} {n : Nat} {xs : List Value} (h : Ow w (Col c y) e sz v n xs) (x : Nat) : Ow w (Col (Dk.paint c w.heap.size x) y) e sz v n xs := h.mono fun k hk e => (paint_old hk).trans e
theorem Ow.apart {e : TypeId} {sz : Nat} {v : Value} {n : Nat} {xs : List Value} (h : Ow w (Col c y) e sz v n xs) (hf : FS (Col (Dk.paint c w.heap.size x) x) w w') (hne : x ≠ y) : Ow w' (Col (Dk.paint c w.heap.size x) y) e sz v n xs :=
  (Ow.paint h x).kept hf fun k hk e => hne (e.symm.trans hk)
/-- A block of another colour. -/
theorem blk_apart {b : Nat} {o : Obj} (h : w.heap[b]? = some o) (hc : c b = y) (hf : FS (Col (Dk.paint c w.heap.size x) x) w w') (hne : x ≠ y) : w'.heap[b]? = some o ∧ Dk.paint c w.heap.size x b = y := by
  have hl : b < w.heap.size := by
    rcases Nat.lt_or_ge b w.heap.size with h1 | h1
    · exact h1
    · simp [Array.getElem?_eq_none h1] at h
  exact ⟨hf.old h fun e => hne (e.symm.trans ((paint_old hl).trans hc)), (paint_old hl).trans hc⟩
end
end Go.Proofs.Ytbdfdfahpdilpaa.Dk
