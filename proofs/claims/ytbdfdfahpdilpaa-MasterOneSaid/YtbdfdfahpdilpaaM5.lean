import Derived.Test.YtbdfdfahpdilpaaM4
import Derived.Test.YtbdfdfahpdilpaaZB
/-! Layer 12: two sectors. -/
namespace Go.Proofs.Ytbdfdfahpdilpaa.X12
open Go Go.RowKit Go.ChangeMaps Go.Proofs.Ytbdfdfahpdilpaa.Arr Go.Proofs.Ytbdfdfahpdilpaa.Mp Go.Proofs.Ytbdfdfahpdilpaa.Ow Go.Proofs.Ytbdfdfahpdilpaa.Dk Go.Proofs.Ytbdfdfahpdilpaa.Slab Go.Proofs.Ytbdfdfahpdilpaa.Lv Go.Proofs.YtbdfdfahpdilpaaW.PrintWords Go.Proofs.YtbdfdfahpdilpaaW.PrintLast Go.Proofs.YtbdfdfahpdilpaaW.PrintMore
set_option linter.unusedVariables false
set_option linter.unusedSimpArgs false
/-- Two sectors, nothing waits. -/
def LD (s0 s1 : ByteArray) : DS := ⟨[s0, s1], [], false, -1⟩
theorem LD_new : newD 2 = LD (noughts 128) (noughts 128) := rfl
theorem LD_ok (s0 s1 : ByteArray) : OkN 0 (LD s0 s1) := ⟨⟨by show 0 ≤ 1000000; omega, by show (-1 : Int) ≤ -1; omega, by show (-1 : Int) < 9223372036854775808; omega, by show 2 ≤ 512; omega, fun p hp => by cases hp⟩, Nat.le_refl _⟩
theorem secM_size (t c l : Int) (ht : 0 ≤ t ∧ t < 4294967296) : (secM t c l).size = 128 := by
  have h := (packI_bl t 0 (encM c l) ht (by decide) (by rw [encM_size]; decide)).1
  have h2 := congrArg List.length h
  rw [bl_len, secL_len t 0 _ (by rw [bl_len, encM_size]; decide)] at h2
  exact h2
theorem enc_nums {c l : Int} (h : mayM c l = true) : numB (encM c l) = c ∧ numB ((encM c l).extract 4 8) = l := by
  have hb := may_bounds h
  have e : bl (encM c l) = [be c 0, be c 1, be c 2, be c 3, be l 0, be l 1, be l 2, be l 3] := by
    simp [bl, encM, bv, List.range, List.range.loop]
  refine ⟨?_, ?_⟩
  · rw [numB_bl _ (by rw [encM_size]; decide), e]
    exact num4_be c (by omega)
  · rw [numB_cut _ 4 8 (by decide) (by rw [encM_size]; decide), e]
    exact num4_be l (by omega)
theorem one_sec {t c l : Int} (ht : 0 ≤ t ∧ t < 4294967296) (h : mayM c l = true) : oneB (secM t c l) = ⟨c, l, t, true⟩ := by
  have hu : unpackF (secM t c l) = (t, 0, encM c l, 0) := unpack_pack t 0 (encM c l) ht (by decide) (by rw [encM_size]; decide)
  unfold oneB goodB
  rw [hu]
  simp only [encM_size, (enc_nums h).1, (enc_nums h).2, h]
  rfl
theorem one_zero : oneB (noughts 128) = ⟨0, 0, 0, false⟩ := by
  have e : goodB (unpackF (noughts 128)) = false := by decide +kernel
  unfold oneB
  rw [e]
  rfl
theorem LD_read0 (s0 s1 : ByteArray) : readE (LD s0 s1) 0 = 0 ∧ readS (LD s0 s1) 0 = s0 := ⟨rfl, rfl⟩
theorem LD_read1 (s0 s1 : ByteArray) : readE (LD s0 s1) 1 = 0 ∧ readS (LD s0 s1) 1 = s1 := ⟨rfl, rfl⟩
theorem LD_fold (s0 s1 : ByteArray) : readM (LD s0 s1) 0 = (stepM (stepM ⟨0, 1, 0, false⟩ (oneB s0)) (oneB s1), 0) := by
  have h0 : oneD (LD s0 s1) 0 = oneB s0 := rfl
  have h1 : oneD (LD s0 s1) 1 = oneB s1 := rfl
  unfold readM
  rw [if_neg (by show ¬ (0 : Int) ≠ 0; simp), if_neg (by show ¬ false = true; simp)]
  show (stepM (stepM ⟨0, 1, 0, false⟩ (oneD (LD s0 s1) (0 + ((0 : Nat) : Int)))) (oneD (LD s0 s1) (0 + ((1 : Nat) : Int))), (0 : Int)) = _
  rw [show (0 : Int) + ((0 : Nat) : Int) = 0 from rfl, show (0 : Int) + ((1 : Nat) : Int) = 1 from rfl, h0, h1]
def LDput (s0 s1 : ByteArray) (k : Int) (s : ByteArray) : DS := if k = 0 then LD s s1 else LD s0 s
theorem LD_sync (s0 s1 : ByteArray) (k : Int) (s : ByteArray) (hk : k = 0 ∨ k = 1) : settleD { (pushD (LD s0 s1) k s) with safe := overF (lastOf (pushD (LD s0 s1) k s).row) (LD s0 s1).safe } = LDput s0 s1 k s := by
  rcases hk with rfl | rfl <;> rfl
theorem LD_live (s0 s1 : ByteArray) : Live 2 (LD s0 s1) := ⟨rfl, rfl, rfl⟩
theorem LD_write (s0 s1 : ByteArray) {t c l : Int} (ht : 0 ≤ t ∧ t < 4294967296) (h : mayM c l = true) : writeME (LD s0 s1) 0 t c l = 0 ∧ writeMD (LD s0 s1) 0 t c l = LDput s0 s1 (t % 2) (secM t c l) := by
  have hk : t % 2 = 0 ∨ t % 2 = 1 := by omega
  have hsp : spotM 0 t = t % 2 := by unfold spotM; omega
  have hs := secM_size t c l ht
  have hw := live_writeE (LD_live s0 s1) (t % 2) (secM t c l) hs (by omega) (by omega)
  have hd := live_writeD (LD_live s0 s1) (t % 2) (secM t c l) hs (by omega) (by omega)
  have hl := live_write (t % 2) (secM t c l) (LD_live s0 s1)
  have hb : bothE (LD s0 s1) 0 = 0 := rfl
  refine ⟨?_, ?_⟩
  · unfold writeME
    rw [if_neg (by rw [hb]; simp), if_neg (by simp [h]), hsp, hw, if_neg (by simp)]
    exact (live_bears hl).2
  · unfold writeMD
    rw [if_neg (by rw [hb]; simp), if_neg (by simp [h]), hsp, hw, if_neg (by simp), live_syncD hl, hd]
    exact LD_sync s0 s1 (t % 2) (secM t c l) hk
theorem LD_lose0 (s0 s1 : ByteArray) : loseE (LD s0 s1) 0 = 0 ∧ loseD (LD s0 s1) 0 = LD (noughts 128) s1 := ⟨rfl, rfl⟩
theorem LD_lose1 (s0 s1 : ByteArray) : loseE (LD s0 s1) 1 = 0 ∧ loseD (LD s0 s1) 1 = LD s0 (noughts 128) := ⟨rfl, rfl⟩
end Go.Proofs.Ytbdfdfahpdilpaa.X12
