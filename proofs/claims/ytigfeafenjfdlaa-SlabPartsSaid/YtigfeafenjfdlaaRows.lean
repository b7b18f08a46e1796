/-
  No cell of these rows narrows 'for every input' (looked for: loops, veiled, ifaces, maps, wideKeys, modest, calm, conditions, laid).
  DERIVED. THE GIVEN ROWS OF THIS SEAT. 6 by the template 'for every input the law returns true; each argument reads behind the call as it read before'; 0 by the template 'total and deterministic' (their statements: YtigfeafenjfdlaaTotals.lean).
  GIVEN WITH THE SEED: the statements are not yours to turn. If you find one false, say at which input.
  Laid BY PROGRAM, IN A SANDBOX (cutbox-rows.mjs): the forced cells as the released guide's own fill.sh prints them over the translation 5c9ba08ce980cca1… (all of the seat's roots in one cut). By AI agents, Wed Nov 11 2026. No macro, syntax, notation, axiom, sorry.
-/
import Derived.Test.YtigfeafenjfdlaaChecked
import GoSem.Claim
import GoSem.ClaimJoined
import GoSem.ClaimMapViews
import Derived.JoinedTies
import Derived.KernelRfl
namespace Go.Proofs.Ytigfeafenjfdlaa
/- THE CELL 'sum', in the pinned program and in every row, IS THE sha256 OF THE DUMP (.gsa) THAT YtigfeafenjfdlaaProg.lean LOADS. Nothing in Lean hashes anything: it is a label: what it is worth is what the hold of that sum in a sandbox is worth. -/
noncomputable def Try.pinned : Pinned := { name := "ytigfeafenjfdlaa", sum := "5c9ba08ce980cca1cce57b644f640ecab3bc586a4d4a55afae1a4976ca4c316b", checked := Try.checked }
namespace Rows
def none {H : Type} : Left H := { results := [], args := [] }

/-- 'careenlaw01.SlabPacks': WHATEVER THE INPUT: true; the input reads as it did. -/
def slabPacksSpec : ChangeSpec := { name := "slabPacks", fn := fun _ => fun
  | [d] => { results := [.lit (.bool true)], args := [d] }
  | _ => none }
def slabPacksRow : OpenClaim := { program := "ytigfeafenjfdlaa", sum := "5c9ba08ce980cca1cce57b644f640ecab3bc586a4d4a55afae1a4976ca4c316b", func := "careen/careenlaw01.SlabPacks", spec := "slabPacks", apart := false }
def SlabPacksSaid : Prop := slabPacksRow.holds Try.pinned (OpenSpec.ofChange slabPacksSpec)

/-- ITS FALSE NEIGHBOUR: 'it returns false'. Refute it at one input. -/
def slabPacksWrong : ChangeSpec := { name := "slabPacks", fn := fun _ => fun
  | [d] => { results := [.lit (.bool false)], args := [d] }
  | _ => none }
def SlabPacksWrongFalsely : Prop := slabPacksRow.holds Try.pinned (OpenSpec.ofChange slabPacksWrong)

/-- 'careenlaw01.SlabReads': WHATEVER THE INPUT: true; the input reads as it did. -/
def slabReadsSpec : ChangeSpec := { name := "slabReads", fn := fun _ => fun
  | [d] => { results := [.lit (.bool true)], args := [d] }
  | _ => none }
def slabReadsRow : OpenClaim := { program := "ytigfeafenjfdlaa", sum := "5c9ba08ce980cca1cce57b644f640ecab3bc586a4d4a55afae1a4976ca4c316b", func := "careen/careenlaw01.SlabReads", spec := "slabReads", apart := false }
def SlabReadsSaid : Prop := slabReadsRow.holds Try.pinned (OpenSpec.ofChange slabReadsSpec)

/-- ITS FALSE NEIGHBOUR: 'it returns false'. Refute it at one input. -/
def slabReadsWrong : ChangeSpec := { name := "slabReads", fn := fun _ => fun
  | [d] => { results := [.lit (.bool false)], args := [d] }
  | _ => none }
def SlabReadsWrongFalsely : Prop := slabReadsRow.holds Try.pinned (OpenSpec.ofChange slabReadsWrong)

/-- 'careenlaw01.SlabTurns': WHATEVER THE INPUT: true; the input reads as it did. -/
def slabTurnsSpec : ChangeSpec := { name := "slabTurns", fn := fun _ => fun
  | [d1, d2] => { results := [.lit (.bool true)], args := [d1, d2] }
  | _ => none }
def slabTurnsRow : OpenClaim := { program := "ytigfeafenjfdlaa", sum := "5c9ba08ce980cca1cce57b644f640ecab3bc586a4d4a55afae1a4976ca4c316b", func := "careen/careenlaw01.SlabTurns", spec := "slabTurns", apart := false }
def SlabTurnsSaid : Prop := slabTurnsRow.holds Try.pinned (OpenSpec.ofChange slabTurnsSpec)

/-- ITS FALSE NEIGHBOUR: 'it returns false'. Refute it at one input. -/
def slabTurnsWrong : ChangeSpec := { name := "slabTurns", fn := fun _ => fun
  | [d1, d2] => { results := [.lit (.bool false)], args := [d1, d2] }
  | _ => none }
def SlabTurnsWrongFalsely : Prop := slabTurnsRow.holds Try.pinned (OpenSpec.ofChange slabTurnsWrong)

/-- 'careenlaw01.SlabOne': WHATEVER THE INPUT: true; the input reads as it did. -/
def slabOneSpec : ChangeSpec := { name := "slabOne", fn := fun _ => fun
  | [d1, d2] => { results := [.lit (.bool true)], args := [d1, d2] }
  | _ => none }
def slabOneRow : OpenClaim := { program := "ytigfeafenjfdlaa", sum := "5c9ba08ce980cca1cce57b644f640ecab3bc586a4d4a55afae1a4976ca4c316b", func := "careen/careenlaw01.SlabOne", spec := "slabOne", apart := false }
def SlabOneSaid : Prop := slabOneRow.holds Try.pinned (OpenSpec.ofChange slabOneSpec)

/-- ITS FALSE NEIGHBOUR: 'it returns false'. Refute it at one input. -/
def slabOneWrong : ChangeSpec := { name := "slabOne", fn := fun _ => fun
  | [d1, d2] => { results := [.lit (.bool false)], args := [d1, d2] }
  | _ => none }
def SlabOneWrongFalsely : Prop := slabOneRow.holds Try.pinned (OpenSpec.ofChange slabOneWrong)

/-- 'careenlaw01.SlabParts': WHATEVER THE INPUT: true; the input reads as it did. -/
def slabPartsSpec : ChangeSpec := { name := "slabParts", fn := fun _ => fun
  | [d] => { results := [.lit (.bool true)], args := [d] }
  | _ => none }
def slabPartsRow : OpenClaim := { program := "ytigfeafenjfdlaa", sum := "5c9ba08ce980cca1cce57b644f640ecab3bc586a4d4a55afae1a4976ca4c316b", func := "careen/careenlaw01.SlabParts", spec := "slabParts", apart := false }
def SlabPartsSaid : Prop := slabPartsRow.holds Try.pinned (OpenSpec.ofChange slabPartsSpec)

/-- ITS FALSE NEIGHBOUR: 'it returns false'. Refute it at one input. -/
def slabPartsWrong : ChangeSpec := { name := "slabParts", fn := fun _ => fun
  | [d] => { results := [.lit (.bool false)], args := [d] }
  | _ => none }
def SlabPartsWrongFalsely : Prop := slabPartsRow.holds Try.pinned (OpenSpec.ofChange slabPartsWrong)

/-- 'careenlaw01.SlabSums': WHATEVER THE INPUT: true; the input reads as it did. -/
def slabSumsSpec : ChangeSpec := { name := "slabSums", fn := fun _ => fun
  | [d1, d2, d3] => { results := [.lit (.bool true)], args := [d1, d2, d3] }
  | _ => none }
def slabSumsRow : OpenClaim := { program := "ytigfeafenjfdlaa", sum := "5c9ba08ce980cca1cce57b644f640ecab3bc586a4d4a55afae1a4976ca4c316b", func := "careen/careenlaw01.SlabSums", spec := "slabSums", apart := false }
def SlabSumsSaid : Prop := slabSumsRow.holds Try.pinned (OpenSpec.ofChange slabSumsSpec)

/-- ITS FALSE NEIGHBOUR: 'it returns false'. Refute it at one input. -/
def slabSumsWrong : ChangeSpec := { name := "slabSums", fn := fun _ => fun
  | [d1, d2, d3] => { results := [.lit (.bool false)], args := [d1, d2, d3] }
  | _ => none }
def SlabSumsWrongFalsely : Prop := slabSumsRow.holds Try.pinned (OpenSpec.ofChange slabSumsWrong)

/- THE SECOND FORM. 'bulk': how many values and letters a reading holds, each counted each time it is reached (what is shared counts as often as it is met; a slice's spare places count too). A statement '..UptoSaid' is the law's where the arguments, and the package variables that the reading takes, are together of bulk at most 1048576: NARROWER than '..Said'. Prove '..Said' where nothing that the law and all that it calls make is longer than what came in: it says more and counts as full. Else prove '..UptoSaid'. A law counts once. -/
mutual
def uptoBulk {H : Type} : DataW H → Nat
  | .lit (.string bytes) => bytes.length + 1
  | .lit _ => 1
  | .nil => 1
  | .ptr d => uptoBulk d + 1
  | .slice elems spare => uptoBulkAll elems + uptoBulkAll spare + 1
  | .agg parts => uptoBulkAll parts + 1
  | .iface _ d => uptoBulk d + 1
  | .map entries => uptoBulkEntries entries + 1
  | .held _ => 1
def uptoBulkAll {H : Type} : List (DataW H) → Nat
  | [] => 0
  | d :: r => uptoBulk d + uptoBulkAll r
def uptoBulkEntries {H : Type} : List (Lit × DataW H) → Nat
  | [] => 0
  | x :: r => uptoBulkEntry x + uptoBulkEntries r
def uptoBulkEntry {H : Type} : Lit × DataW H → Nat
  | (.string bytes, d) => bytes.length + uptoBulk d + 1
  | (_, d) => uptoBulk d + 1
 end
def uptoSmall : (H : Type) → List (DataW H) → Bool := fun _ ds => decide (uptoBulkAll ds ≤ 1048576)
def OpenSpec.upto (s : _root_.Go.ChangeSpec) : _root_.Go.OpenSpec := { _root_.Go.OpenSpec.ofChange s with cond := some uptoSmall }

/-- 'careenlaw01.SlabPacks', WHERE WHAT IT READS IS OF BULK AT MOST 1048576: true; the input reads as it did. -/
def slabPacksUptoRow : OpenClaim := { program := "ytigfeafenjfdlaa", sum := "5c9ba08ce980cca1cce57b644f640ecab3bc586a4d4a55afae1a4976ca4c316b", func := "careen/careenlaw01.SlabPacks", spec := "slabPacks", apart := false, narrowed := true }
def SlabPacksUptoSaid : Prop := slabPacksUptoRow.holds Try.pinned (OpenSpec.upto slabPacksSpec)

/-- 'careenlaw01.SlabReads', WHERE WHAT IT READS IS OF BULK AT MOST 1048576: true; the input reads as it did. -/
def slabReadsUptoRow : OpenClaim := { program := "ytigfeafenjfdlaa", sum := "5c9ba08ce980cca1cce57b644f640ecab3bc586a4d4a55afae1a4976ca4c316b", func := "careen/careenlaw01.SlabReads", spec := "slabReads", apart := false, narrowed := true }
def SlabReadsUptoSaid : Prop := slabReadsUptoRow.holds Try.pinned (OpenSpec.upto slabReadsSpec)

/-- 'careenlaw01.SlabTurns', WHERE WHAT IT READS IS OF BULK AT MOST 1048576: true; the input reads as it did. -/
def slabTurnsUptoRow : OpenClaim := { program := "ytigfeafenjfdlaa", sum := "5c9ba08ce980cca1cce57b644f640ecab3bc586a4d4a55afae1a4976ca4c316b", func := "careen/careenlaw01.SlabTurns", spec := "slabTurns", apart := false, narrowed := true }
def SlabTurnsUptoSaid : Prop := slabTurnsUptoRow.holds Try.pinned (OpenSpec.upto slabTurnsSpec)

/-- 'careenlaw01.SlabOne', WHERE WHAT IT READS IS OF BULK AT MOST 1048576: true; the input reads as it did. -/
def slabOneUptoRow : OpenClaim := { program := "ytigfeafenjfdlaa", sum := "5c9ba08ce980cca1cce57b644f640ecab3bc586a4d4a55afae1a4976ca4c316b", func := "careen/careenlaw01.SlabOne", spec := "slabOne", apart := false, narrowed := true }
def SlabOneUptoSaid : Prop := slabOneUptoRow.holds Try.pinned (OpenSpec.upto slabOneSpec)

/-- 'careenlaw01.SlabParts', WHERE WHAT IT READS IS OF BULK AT MOST 1048576: true; the input reads as it did. -/
def slabPartsUptoRow : OpenClaim := { program := "ytigfeafenjfdlaa", sum := "5c9ba08ce980cca1cce57b644f640ecab3bc586a4d4a55afae1a4976ca4c316b", func := "careen/careenlaw01.SlabParts", spec := "slabParts", apart := false, narrowed := true }
def SlabPartsUptoSaid : Prop := slabPartsUptoRow.holds Try.pinned (OpenSpec.upto slabPartsSpec)

/-- 'careenlaw01.SlabSums', WHERE WHAT IT READS IS OF BULK AT MOST 1048576: true; the input reads as it did. -/
def slabSumsUptoRow : OpenClaim := { program := "ytigfeafenjfdlaa", sum := "5c9ba08ce980cca1cce57b644f640ecab3bc586a4d4a55afae1a4976ca4c316b", func := "careen/careenlaw01.SlabSums", spec := "slabSums", apart := false, narrowed := true }
def SlabSumsUptoSaid : Prop := slabSumsUptoRow.holds Try.pinned (OpenSpec.upto slabSumsSpec)

end Rows
end Go.Proofs.Ytigfeafenjfdlaa
