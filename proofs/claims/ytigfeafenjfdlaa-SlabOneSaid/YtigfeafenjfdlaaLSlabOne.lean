/- For every two slabs, the law SlabOne returns true: unlike slabs have unlike sectors. No condition. -/
import Derived.Test.YtigfeafenjfdlaaX1RowSlabOne
import Derived.Test.YtigfeafenjfdlaaPure1b
namespace Go.Proofs.Ytigfeafenjfdlaa.X1
open Go Go.RowKit Go.Proofs.YtigfeafenjfdlaaW.PrintWords Go.Proofs.Ytigfeafenjfdlaa.Slab
theorem one_eq (e i e' i' : Int) (b b' : ByteArray) (he : 0 ≤ e ∧ e < 4294967296) (hi : 0 ≤ i ∧ i < 4294967296) (he' : 0 ≤ e' ∧ e' < 4294967296) (hi' : 0 ≤ i' ∧ i' < 4294967296) (k : Nat) : careenlaw01_SlabOne.f k e i b e' i' b' = some true := by
  unfold careenlaw01_SlabOne.f
  rw [pack_eq e i b he hi, pack_eq e' i' b' he' hi', awake_eq]
  simp only [Option.bind_some, if_true]
  by_cases hb : b.size ≤ 112
  · by_cases hb' : b'.size ≤ 112
    · obtain ⟨p, q⟩ := packI_bl e i b he hi hb
      obtain ⟨p', q'⟩ := packI_bl e' i' b' he' hi' hb'
      rw [if_pos q, if_pos q', toList_bl, toList_bl, toList_bl, toList_bl, p, p']
      congr 1
      by_cases h : e = e' ∧ i = i' ∧ bl b = bl b'
      · obtain ⟨rfl, rfl, h⟩ := h
        simp [h]
      · have n : ¬ secL e i (bl b) = secL e' i' (bl b') := fun z => h (sec_inj e i e' i' (bl b) (bl b') he hi (by rw [bl_len]; exact hb) he' hi' (by rw [bl_len]; exact hb') z)
        have n1 : (secL e i (bl b) == secL e' i' (bl b')) = false := by simpa using n
        have n2 : (e == e' && (i == i' && (bl b == bl b'))) = false := by
          by_cases h1 : e = e'
          · by_cases h2 : i = i'
            · have h3 : ¬ bl b = bl b' := fun z => h ⟨h1, h2, z⟩
              simp [h3]
            · simp [h2]
          · simp [h1]
        rw [n1, n2]; rfl
    · rw [packI_no e' i' b' hb']
      split
      · rfl
      · rfl
  · rw [packI_no e i b hb]; rfl
theorem wf32 {x : Int} (h : (Lit.int .u32 x).wf = true) : 0 ≤ x ∧ x < 4294967296 := by
  simp only [Lit.wf, Bool.and_eq_true, decide_eq_true_eq] at h
  have h2 : IntKind.u32.min ≤ x ∧ x ≤ IntKind.u32.max := h
  simp only [show IntKind.u32.min = 0 from rfl, show IntKind.u32.max = 4294967295 from rfl] at h2
  omega
theorem SlabOne : RowSlabOne.Pure := by
  intro x y hx hy
  exact ⟨0, one_eq _ _ _ _ _ _ (wf32 hx.1) (wf32 hx.2.1) (wf32 hy.1) (wf32 hy.2.1) 0⟩
theorem slabOne_holds : Rows.SlabOneSaid := RowSlabOne.holds SlabOne
end Go.Proofs.Ytigfeafenjfdlaa.X1
