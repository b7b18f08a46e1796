/- For every text, the law SlabReads returns true: any bytes are the slab that the document says, or none. No condition. -/
import Derived.Test.YtigfeafenjfdlaaX1RowSlabReads
import Derived.Test.YtigfeafenjfdlaaPure1b
namespace Go.Proofs.Ytigfeafenjfdlaa.X1
open Go Go.RowKit Go.Proofs.YtigfeafenjfdlaaW.PrintWords Go.Proofs.Ytigfeafenjfdlaa.Slab
theorem unpack_ev (s : ByteArray) : Ev (fun k => slab_Unpack.f k s) (unpackF s) := Ev.of (slab_Unpack.mono s) (unpack_eq 0 s)
theorem reads_ev (s : ByteArray) : Ev (fun k => careenlaw01_SlabReads.f k s) true := by
  refine Ev.congr (f := fun k => careenlaw01_SlabReads.j0 k s (decide ((s.size : Int) > 1000))) (fun k => ?_) ?_
  · unfold careenlaw01_SlabReads.f
    rw [awake_eq]
    rfl
  · cases decide ((s.size : Int) > 1000) with
    | true => exact Ev.step (f := fun _ => some true) (fun k => rfl) (Ev.now _)
    | false =>
      refine Ev.step (f := fun k => (slab_Unpack.f k s).bind fun bt138 => (careenref01_Unpack.f k s).bind fun bt143 => (if (bt138.1 == bt143.1 && (bt138.2.1 == bt143.2.1 && (bt138.2.2.1.toList == bt143.2.2.1.toList))) = true then (if ((bt138.2.2.2 == 0) == bt143.2.2.2) = true then (if bt143.2.2.2 = true then (some true) else (some (bt138.2.2.2 == 8))) else (some false)) else (some false))) (fun k => rfl) ?_
      refine Ev.bind (unpack_ev s) (Ev.bind (refunpack_ev s) ?_)
      by_cases q : isSec s
      · rw [show unpackF s = (nE s, nI s, cutB s, 0) from if_pos q, show refunpackF s = (nE s, nI s, cutB s, true) from if_pos q]
        simp
        exact Ev.now _
      · rw [show unpackF s = (0, 0, ⟨#[]⟩, 8) from if_neg q, show refunpackF s = (0, 0, ⟨#[]⟩, false) from if_neg q]
        simp
        exact Ev.now _
theorem SlabReads : RowSlabReads.Pure := by
  intro s h0
  exact (reads_ev s).rounds
theorem slabReads_holds : Rows.SlabReadsSaid := RowSlabReads.holds SlabReads
end Go.Proofs.Ytigfeafenjfdlaa.X1
