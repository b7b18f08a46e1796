import Derived.Test.YtbdfdfahpdilpaaD2
import Derived.Test.YtbdfdfahpdilpaaD3
import Derived.Test.YtbdfdfahpdilpaaD5
import Derived.Test.YtbdfdfahpdilpaaD6
/-! Layer 3: awake. -/
namespace Go.Proofs.Ytbdfdfahpdilpaa.Dk
open Go Go.RowKit Go.ChangeMaps Go.Proofs.Ytbdfdfahpdilpaa.Arr Go.Proofs.Ytbdfdfahpdilpaa.Mp Go.Proofs.Ytbdfdfahpdilpaa.Ow Go.Proofs.YtbdfdfahpdilpaaW.PrintWords Go.Proofs.YtbdfdfahpdilpaaW.PrintLast Go.Proofs.YtbdfdfahpdilpaaW.PrintMore
set_option linter.unusedVariables false
set_option linter.unusedSimpArgs false
def OkN (n : Nat) (d : DS) : Prop := OkD d ∧ d.row.length ≤ n
theorem ok_new (n : Nat) (h : n ≤ 512) : OkN 0 (newD n) := ⟨⟨by simp [newD], by simp [newD], by simp [newD], by simp [newD]; omega, by simp [newD]⟩, by simp [newD]⟩
theorem ok_bears {n : Nat} {d : DS} (h : OkN n d) : OkN n (bearsD d) := by
  obtain ⟨⟨h1, h2, h3, h4, h5⟩, h6⟩ := h
  unfold bearsD
  split
  · exact ⟨⟨h1, h2, h3, h4, h5⟩, h6⟩
  · split
    · exact ⟨⟨h1, h2, h3, h4, h5⟩, h6⟩
    · split
      · exact ⟨⟨h1, by simp only; omega, by simp only; omega, h4, h5⟩, h6⟩
      · exact ⟨⟨h1, h2, h3, h4, h5⟩, h6⟩
theorem okOf {w : World} {S : Nat → Prop} {g : Nat} {d : DS} {n : Nat} (_ : DK w S g d) (h : OkN n d) : OkN n d := h
theorem OkN.ok {n : Nat} {d : DS} (h : OkN n d) : OkD d := h.1
theorem OkN.mono {n n' : Nat} {d : DS} (h : OkN n d) (hn : n ≤ n') : OkN n' d := ⟨h.1, Nat.le_trans h.2 hn⟩
theorem ok_write {n : Nat} {d : DS} {i : Int} {s : ByteArray} (h : OkN n d) (hn : n < 1000000) : OkN (n + 1) (writeD d i s) := by
  unfold writeD
  split
  · exact h.mono (by omega)
  · split
    · exact h.mono (by omega)
    · split
      · exact (ok_bears h).mono (by omega)
      · rename_i ht _ _
        have hb := ok_bears h
        have hs := bears_safe d
        have hr := bears_row d
        have hi : 0 ≤ i ∧ i < d.safe.length := by simpa [thereD] using ht
        obtain ⟨⟨h1, h2, h3, h4, h5⟩, h6⟩ := hb
        refine ⟨⟨by simp [pushD]; omega, h2, h3, h4, ?_⟩, by simp [pushD]; omega⟩
        intro p hp
        rcases List.mem_append.1 hp with hp | hp
        · exact h5 p hp
        · simp at hp
          subst hp
          show 0 ≤ i ∧ i < (bearsD d).safe.length
          rw [hs]
          exact hi
theorem ok_sync {n : Nat} {d : DS} (h : OkN n d) : OkN n (syncD d) := by
  unfold syncD
  split
  · exact ok_bears h
  · obtain ⟨⟨h1, h2, h3, h4, h5⟩, h6⟩ := ok_bears h
    have hl := h.1.2.2.2.1
    exact ⟨⟨by simp [settleD], h2, h3, by simpa [settleD, over_length] using hl, by simp [settleD]⟩, by simp [settleD]⟩
theorem ok_arm {n : Nat} {d : DS} (h : OkN n d) (k : Int) (hk : k < 9223372036854775808) : OkN n { d with fuse := max k (-1) } := by
  obtain ⟨⟨h1, h2, h3, h4, h5⟩, h6⟩ := h
  exact ⟨⟨h1, by simp only; omega, by simp only; omega, h4, h5⟩, h6⟩
theorem ok_crash {n : Nat} {d : DS} {a : Nat} {p : Nat → Nat} (h : OkN n d) : OkN 0 (crashD a p d) := by
  obtain ⟨⟨h1, h2, h3, h4, h5⟩, h6⟩ := h
  exact ⟨⟨by simp [crashD], by simp [crashD], by simp [crashD], by simpa [crashD, crashT_length] using h4, by simp [crashD]⟩, by simp [crashD]⟩
theorem FS.up {B : Nat} {w w' : World} (h : FS (fun k => B ≤ k) w w') (hB : B ≤ w.heap.size) : Below B w w' := ⟨h.os, h.tape, h.output, h.size, fun k hk => h.block k (by omega) (by omega)⟩
theorem pk_one (W : World) (S : Nat → Prop) (k : Nat) : Pk (W.alloc (.cells #[.int .u8 (k : Int)] TB)) S (some ⟨W.heap.size, 0, none⟩) 1 (fun _ => k) := fun _ => ⟨_, rfl, fun j hj => by
  have e : j = 0 := by omega
  subst e
  exact blk_cell (heap_alloc_new W _) 0, .inr ⟨_, _, heap_alloc_new W _⟩⟩
theorem pk_nil (W : World) (S : Nat → Prop) (A : Option Addr) (p : Nat → Nat) : Pk W S A 0 p := fun h => absurd h (by decide)
def aw1 : DS := writeD (newD 2) 0 (fullS 97)
def aw2 : DS := syncD aw1
def aw3 : DS := writeD aw2 0 (fullS 98)
def aw4 (k : Nat) : DS := crashD 1 (fun _ => k) aw3
def aw5 : DS := { newD 2 with fuse := max 1 (-1) }
def aw6 : DS := writeD aw5 1 (fullS 120)
def aw7 : DS := writeD aw6 1 (fullS 121)
theorem aw_e1 : writeE (newD 2) 0 (fullS 97) = 0 := by decide +kernel
theorem aw_e2 : syncE (writeD (newD 2) 0 (fullS 97)) = 0 := by decide +kernel
theorem aw_e3 : writeE (syncD (writeD (newD 2) 0 (fullS 97))) 0 (fullS 98) = 0 := by decide +kernel
theorem aw_e4 (k : Nat) (h : k ≤ 2) : readE (aw4 k) 0 = 0 := by
  have : k = 0 ∨ k = 1 ∨ k = 2 := by omega
  rcases this with rfl | rfl | rfl <;> decide +kernel
theorem aw_s0 : readS (aw4 0) 0 = fullS 97 := by decide +kernel
theorem aw_s1 : readS (aw4 1) 0 = fullS 98 := by decide +kernel
theorem aw_s2 : readS (aw4 2) 0 = fullS 0 := by decide +kernel
theorem aw_e6 : writeE { newD 2 with fuse := max 1 (-1) } 1 (fullS 120) = 0 := by decide +kernel
theorem aw_e7 : writeE (writeD { newD 2 with fuse := max 1 (-1) } 1 (fullS 120)) 1 (fullS 121) = 4 := by decide +kernel
theorem aw_g : aw7.gone = true := by decide +kernel
theorem aw_w : (aw7.row.length : Int) = 1 := by decide +kernel
end Go.Proofs.Ytbdfdfahpdilpaa.Dk
