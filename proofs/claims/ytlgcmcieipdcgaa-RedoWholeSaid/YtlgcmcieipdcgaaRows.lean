/-
  No cell of these rows narrows 'for every input' (looked for: loops, veiled, ifaces, maps, wideKeys, modest, calm, conditions, laid).
  DERIVED. THE GIVEN ROWS OF THIS SEAT. 12 by the template 'for every input the law returns true; each argument reads behind the call as it read before'; 0 by the template 'total and deterministic' (their statements: YtlgcmcieipdcgaaTotals.lean).
  GIVEN WITH THE SEED: the statements are not yours to turn. If you find one false, say at which input.
  Laid BY PROGRAM, IN A SANDBOX (cutbox-rows.mjs): the forced cells as the released guide's own fill.sh prints them over the translation 56938f03a718af3f… (all of the seat's roots in one cut). By AI agents, Wed Nov 11 2026. No macro, syntax, notation, axiom, sorry.
-/
import Derived.Test.YtlgcmcieipdcgaaChecked
import GoSem.Claim
import GoSem.ClaimJoined
import GoSem.ClaimMapViews
import Derived.JoinedTies
import Derived.KernelRfl
namespace Go.Proofs.Ytlgcmcieipdcgaa
/- THE CELL 'sum', in the pinned program and in every row, IS THE sha256 OF THE DUMP (.gsa) THAT YtlgcmcieipdcgaaProg.lean LOADS. Nothing in Lean hashes anything: it is a label: what it is worth is what the hold of that sum in a sandbox is worth. -/
noncomputable def Try.pinned : Pinned := { name := "ytlgcmcieipdcgaa", sum := "56938f03a718af3fdda01ab812ec638561eabc1ac198f5cb9758ddae9323f6e1", checked := Try.checked }
namespace Rows
def none {H : Type} : Left H := { results := [], args := [] }

/-- 'careenlaw06.PagePuts': WHATEVER THE INPUT: true; the input reads as it did. -/
def pagePutsSpec : ChangeSpec := { name := "pagePuts", fn := fun _ => fun
  | [d1, d2, d3, d4, d5] => { results := [.lit (.bool true)], args := [d1, d2, d3, d4, d5] }
  | _ => none }
def pagePutsRow : OpenClaim := { program := "ytlgcmcieipdcgaa", sum := "56938f03a718af3fdda01ab812ec638561eabc1ac198f5cb9758ddae9323f6e1", func := "careen/careenlaw06.PagePuts", spec := "pagePuts", apart := false }
def PagePutsSaid : Prop := pagePutsRow.holds Try.pinned (OpenSpec.ofChange pagePutsSpec)

/-- ITS FALSE NEIGHBOUR: 'it returns false'. Refute it at one input. -/
def pagePutsWrong : ChangeSpec := { name := "pagePuts", fn := fun _ => fun
  | [d1, d2, d3, d4, d5] => { results := [.lit (.bool false)], args := [d1, d2, d3, d4, d5] }
  | _ => none }
def PagePutsWrongFalsely : Prop := pagePutsRow.holds Try.pinned (OpenSpec.ofChange pagePutsWrong)

/-- 'careenlaw06.PageApplies': WHATEVER THE INPUT: true; the input reads as it did. -/
def pageAppliesSpec : ChangeSpec := { name := "pageApplies", fn := fun _ => fun
  | [d1, d2, d3] => { results := [.lit (.bool true)], args := [d1, d2, d3] }
  | _ => none }
def pageAppliesRow : OpenClaim := { program := "ytlgcmcieipdcgaa", sum := "56938f03a718af3fdda01ab812ec638561eabc1ac198f5cb9758ddae9323f6e1", func := "careen/careenlaw06.PageApplies", spec := "pageApplies", apart := false }
def PageAppliesSaid : Prop := pageAppliesRow.holds Try.pinned (OpenSpec.ofChange pageAppliesSpec)

/-- ITS FALSE NEIGHBOUR: 'it returns false'. Refute it at one input. -/
def pageAppliesWrong : ChangeSpec := { name := "pageApplies", fn := fun _ => fun
  | [d1, d2, d3] => { results := [.lit (.bool false)], args := [d1, d2, d3] }
  | _ => none }
def PageAppliesWrongFalsely : Prop := pageAppliesRow.holds Try.pinned (OpenSpec.ofChange pageAppliesWrong)

/-- 'careenlaw06.PageAgain': WHATEVER THE INPUT: true; the input reads as it did. -/
def pageAgainSpec : ChangeSpec := { name := "pageAgain", fn := fun _ => fun
  | [d1, d2, d3] => { results := [.lit (.bool true)], args := [d1, d2, d3] }
  | _ => none }
def pageAgainRow : OpenClaim := { program := "ytlgcmcieipdcgaa", sum := "56938f03a718af3fdda01ab812ec638561eabc1ac198f5cb9758ddae9323f6e1", func := "careen/careenlaw06.PageAgain", spec := "pageAgain", apart := false }
def PageAgainSaid : Prop := pageAgainRow.holds Try.pinned (OpenSpec.ofChange pageAgainSpec)

/-- ITS FALSE NEIGHBOUR: 'it returns false'. Refute it at one input. -/
def pageAgainWrong : ChangeSpec := { name := "pageAgain", fn := fun _ => fun
  | [d1, d2, d3] => { results := [.lit (.bool false)], args := [d1, d2, d3] }
  | _ => none }
def PageAgainWrongFalsely : Prop := pageAgainRow.holds Try.pinned (OpenSpec.ofChange pageAgainWrong)

/-- 'careenlaw06.PageParts': WHATEVER THE INPUT: true; the input reads as it did. -/
def pagePartsSpec : ChangeSpec := { name := "pageParts", fn := fun _ => fun
  | [d1, d2, d3, d4] => { results := [.lit (.bool true)], args := [d1, d2, d3, d4] }
  | _ => none }
def pagePartsRow : OpenClaim := { program := "ytlgcmcieipdcgaa", sum := "56938f03a718af3fdda01ab812ec638561eabc1ac198f5cb9758ddae9323f6e1", func := "careen/careenlaw06.PageParts", spec := "pageParts", apart := false }
def PagePartsSaid : Prop := pagePartsRow.holds Try.pinned (OpenSpec.ofChange pagePartsSpec)

/-- ITS FALSE NEIGHBOUR: 'it returns false'. Refute it at one input. -/
def pagePartsWrong : ChangeSpec := { name := "pageParts", fn := fun _ => fun
  | [d1, d2, d3, d4] => { results := [.lit (.bool false)], args := [d1, d2, d3, d4] }
  | _ => none }
def PagePartsWrongFalsely : Prop := pagePartsRow.holds Try.pinned (OpenSpec.ofChange pagePartsWrong)

/-- 'careenlaw06.PageUndo': WHATEVER THE INPUT: true; the input reads as it did. -/
def pageUndoSpec : ChangeSpec := { name := "pageUndo", fn := fun _ => fun
  | [d1, d2, d3, d4] => { results := [.lit (.bool true)], args := [d1, d2, d3, d4] }
  | _ => none }
def pageUndoRow : OpenClaim := { program := "ytlgcmcieipdcgaa", sum := "56938f03a718af3fdda01ab812ec638561eabc1ac198f5cb9758ddae9323f6e1", func := "careen/careenlaw06.PageUndo", spec := "pageUndo", apart := false }
def PageUndoSaid : Prop := pageUndoRow.holds Try.pinned (OpenSpec.ofChange pageUndoSpec)

/-- ITS FALSE NEIGHBOUR: 'it returns false'. Refute it at one input. -/
def pageUndoWrong : ChangeSpec := { name := "pageUndo", fn := fun _ => fun
  | [d1, d2, d3, d4] => { results := [.lit (.bool false)], args := [d1, d2, d3, d4] }
  | _ => none }
def PageUndoWrongFalsely : Prop := pageUndoRow.holds Try.pinned (OpenSpec.ofChange pageUndoWrong)

/-- 'careenlaw14.RedoDoes': WHATEVER THE INPUT: true; the input reads as it did. -/
def redoDoesSpec : ChangeSpec := { name := "redoDoes", fn := fun _ => fun
  | [d1, d2, d3, d4] => { results := [.lit (.bool true)], args := [d1, d2, d3, d4] }
  | _ => none }
def redoDoesRow : OpenClaim := { program := "ytlgcmcieipdcgaa", sum := "56938f03a718af3fdda01ab812ec638561eabc1ac198f5cb9758ddae9323f6e1", func := "careen/careenlaw14.RedoDoes", spec := "redoDoes", apart := false }
def RedoDoesSaid : Prop := redoDoesRow.holds Try.pinned (OpenSpec.ofChange redoDoesSpec)

/-- ITS FALSE NEIGHBOUR: 'it returns false'. Refute it at one input. -/
def redoDoesWrong : ChangeSpec := { name := "redoDoes", fn := fun _ => fun
  | [d1, d2, d3, d4] => { results := [.lit (.bool false)], args := [d1, d2, d3, d4] }
  | _ => none }
def RedoDoesWrongFalsely : Prop := redoDoesRow.holds Try.pinned (OpenSpec.ofChange redoDoesWrong)

/-- 'careenlaw14.RedoWhole': WHATEVER THE INPUT: true; the input reads as it did. -/
def redoWholeSpec : ChangeSpec := { name := "redoWhole", fn := fun _ => fun
  | [d1, d2, d3] => { results := [.lit (.bool true)], args := [d1, d2, d3] }
  | _ => none }
def redoWholeRow : OpenClaim := { program := "ytlgcmcieipdcgaa", sum := "56938f03a718af3fdda01ab812ec638561eabc1ac198f5cb9758ddae9323f6e1", func := "careen/careenlaw14.RedoWhole", spec := "redoWhole", apart := false }
def RedoWholeSaid : Prop := redoWholeRow.holds Try.pinned (OpenSpec.ofChange redoWholeSpec)

/-- ITS FALSE NEIGHBOUR: 'it returns false'. Refute it at one input. -/
def redoWholeWrong : ChangeSpec := { name := "redoWhole", fn := fun _ => fun
  | [d1, d2, d3] => { results := [.lit (.bool false)], args := [d1, d2, d3] }
  | _ => none }
def RedoWholeWrongFalsely : Prop := redoWholeRow.holds Try.pinned (OpenSpec.ofChange redoWholeWrong)

/-- 'careenlaw14.RedoAgain': WHATEVER THE INPUT: true; the input reads as it did. -/
def redoAgainSpec : ChangeSpec := { name := "redoAgain", fn := fun _ => fun
  | [d1, d2, d3, d4] => { results := [.lit (.bool true)], args := [d1, d2, d3, d4] }
  | _ => none }
def redoAgainRow : OpenClaim := { program := "ytlgcmcieipdcgaa", sum := "56938f03a718af3fdda01ab812ec638561eabc1ac198f5cb9758ddae9323f6e1", func := "careen/careenlaw14.RedoAgain", spec := "redoAgain", apart := false }
def RedoAgainSaid : Prop := redoAgainRow.holds Try.pinned (OpenSpec.ofChange redoAgainSpec)

/-- ITS FALSE NEIGHBOUR: 'it returns false'. Refute it at one input. -/
def redoAgainWrong : ChangeSpec := { name := "redoAgain", fn := fun _ => fun
  | [d1, d2, d3, d4] => { results := [.lit (.bool false)], args := [d1, d2, d3, d4] }
  | _ => none }
def RedoAgainWrongFalsely : Prop := redoAgainRow.holds Try.pinned (OpenSpec.ofChange redoAgainWrong)

/-- 'careenlaw14.RedoApart': WHATEVER THE INPUT: true; the input reads as it did. -/
def redoApartSpec : ChangeSpec := { name := "redoApart", fn := fun _ => fun
  | [d1, d2, d3, d4] => { results := [.lit (.bool true)], args := [d1, d2, d3, d4] }
  | _ => none }
def redoApartRow : OpenClaim := { program := "ytlgcmcieipdcgaa", sum := "56938f03a718af3fdda01ab812ec638561eabc1ac198f5cb9758ddae9323f6e1", func := "careen/careenlaw14.RedoApart", spec := "redoApart", apart := false }
def RedoApartSaid : Prop := redoApartRow.holds Try.pinned (OpenSpec.ofChange redoApartSpec)

/-- ITS FALSE NEIGHBOUR: 'it returns false'. Refute it at one input. -/
def redoApartWrong : ChangeSpec := { name := "redoApart", fn := fun _ => fun
  | [d1, d2, d3, d4] => { results := [.lit (.bool false)], args := [d1, d2, d3, d4] }
  | _ => none }
def RedoApartWrongFalsely : Prop := redoApartRow.holds Try.pinned (OpenSpec.ofChange redoApartWrong)

/-- 'careenlaw14.RedoSteps': WHATEVER THE INPUT: true; the input reads as it did. -/
def redoStepsSpec : ChangeSpec := { name := "redoSteps", fn := fun _ => fun
  | [d1, d2, d3] => { results := [.lit (.bool true)], args := [d1, d2, d3] }
  | _ => none }
def redoStepsRow : OpenClaim := { program := "ytlgcmcieipdcgaa", sum := "56938f03a718af3fdda01ab812ec638561eabc1ac198f5cb9758ddae9323f6e1", func := "careen/careenlaw14.RedoSteps", spec := "redoSteps", apart := false }
def RedoStepsSaid : Prop := redoStepsRow.holds Try.pinned (OpenSpec.ofChange redoStepsSpec)

/-- ITS FALSE NEIGHBOUR: 'it returns false'. Refute it at one input. -/
def redoStepsWrong : ChangeSpec := { name := "redoSteps", fn := fun _ => fun
  | [d1, d2, d3] => { results := [.lit (.bool false)], args := [d1, d2, d3] }
  | _ => none }
def RedoStepsWrongFalsely : Prop := redoStepsRow.holds Try.pinned (OpenSpec.ofChange redoStepsWrong)

/-- 'careenlaw06.PagePacks': WHATEVER THE INPUT: true; the input reads as it did. -/
def pagePacksSpec : ChangeSpec := { name := "pagePacks", fn := fun _ => fun
  | [d1, d2] => { results := [.lit (.bool true)], args := [d1, d2] }
  | _ => none }
def pagePacksRow : OpenClaim := { program := "ytlgcmcieipdcgaa", sum := "56938f03a718af3fdda01ab812ec638561eabc1ac198f5cb9758ddae9323f6e1", func := "careen/careenlaw06.PagePacks", spec := "pagePacks", apart := false }
def PagePacksSaid : Prop := pagePacksRow.holds Try.pinned (OpenSpec.ofChange pagePacksSpec)

/-- ITS FALSE NEIGHBOUR: 'it returns false'. Refute it at one input. -/
def pagePacksWrong : ChangeSpec := { name := "pagePacks", fn := fun _ => fun
  | [d1, d2] => { results := [.lit (.bool false)], args := [d1, d2] }
  | _ => none }
def PagePacksWrongFalsely : Prop := pagePacksRow.holds Try.pinned (OpenSpec.ofChange pagePacksWrong)

/-- 'careenlaw01.SlabPacks': WHATEVER THE INPUT: true; the input reads as it did. -/
def slabPacksSpec : ChangeSpec := { name := "slabPacks", fn := fun _ => fun
  | [d] => { results := [.lit (.bool true)], args := [d] }
  | _ => none }
def slabPacksRow : OpenClaim := { program := "ytlgcmcieipdcgaa", sum := "56938f03a718af3fdda01ab812ec638561eabc1ac198f5cb9758ddae9323f6e1", func := "careen/careenlaw01.SlabPacks", spec := "slabPacks", apart := false }
def SlabPacksSaid : Prop := slabPacksRow.holds Try.pinned (OpenSpec.ofChange slabPacksSpec)

/-- ITS FALSE NEIGHBOUR: 'it returns false'. Refute it at one input. -/
def slabPacksWrong : ChangeSpec := { name := "slabPacks", fn := fun _ => fun
  | [d] => { results := [.lit (.bool false)], args := [d] }
  | _ => none }
def SlabPacksWrongFalsely : Prop := slabPacksRow.holds Try.pinned (OpenSpec.ofChange slabPacksWrong)

/- THE SECOND FORM. 'bulk': how many values and letters a reading holds, each counted each time it is reached (what is shared counts as often as it is met; a slice's spare places count too). A statement '..UptoSaid' is the law's where the arguments, and the package variables that the reading takes, are together of bulk at most 1048576: NARROWER than '..Said'. Prove '..Said' where nothing that the law and all that it calls make is longer than what came in: it says more and counts as full. Else prove '..UptoSaid'. A law counts once. -/
mutual
def uptoBulk {H : Type} : DataW H → Nat
  | .lit (.string bytes) => bytes.length + 1
  | .lit _ => 1
  | .nil => 1
  | .ptr d => uptoBulk d + 1
  | .slice elems spare => uptoBulkAll elems + uptoBulkAll spare + 1
  | .agg parts => uptoBulkAll parts + 1
  | .iface _ d => uptoBulk d + 1
  | .map entries => uptoBulkEntries entries + 1
  | .held _ => 1
def uptoBulkAll {H : Type} : List (DataW H) → Nat
  | [] => 0
  | d :: r => uptoBulk d + uptoBulkAll r
def uptoBulkEntries {H : Type} : List (Lit × DataW H) → Nat
  | [] => 0
  | x :: r => uptoBulkEntry x + uptoBulkEntries r
def uptoBulkEntry {H : Type} : Lit × DataW H → Nat
  | (.string bytes, d) => bytes.length + uptoBulk d + 1
  | (_, d) => uptoBulk d + 1
 end
def uptoSmall : (H : Type) → List (DataW H) → Bool := fun _ ds => decide (uptoBulkAll ds ≤ 1048576)
def OpenSpec.upto (s : _root_.Go.ChangeSpec) : _root_.Go.OpenSpec := { _root_.Go.OpenSpec.ofChange s with cond := some uptoSmall }

/-- 'careenlaw06.PagePuts', WHERE WHAT IT READS IS OF BULK AT MOST 1048576: true; the input reads as it did. -/
def pagePutsUptoRow : OpenClaim := { program := "ytlgcmcieipdcgaa", sum := "56938f03a718af3fdda01ab812ec638561eabc1ac198f5cb9758ddae9323f6e1", func := "careen/careenlaw06.PagePuts", spec := "pagePuts", apart := false, narrowed := true }
def PagePutsUptoSaid : Prop := pagePutsUptoRow.holds Try.pinned (OpenSpec.upto pagePutsSpec)

/-- 'careenlaw06.PageApplies', WHERE WHAT IT READS IS OF BULK AT MOST 1048576: true; the input reads as it did. -/
def pageAppliesUptoRow : OpenClaim := { program := "ytlgcmcieipdcgaa", sum := "56938f03a718af3fdda01ab812ec638561eabc1ac198f5cb9758ddae9323f6e1", func := "careen/careenlaw06.PageApplies", spec := "pageApplies", apart := false, narrowed := true }
def PageAppliesUptoSaid : Prop := pageAppliesUptoRow.holds Try.pinned (OpenSpec.upto pageAppliesSpec)

/-- 'careenlaw06.PageAgain', WHERE WHAT IT READS IS OF BULK AT MOST 1048576: true; the input reads as it did. -/
def pageAgainUptoRow : OpenClaim := { program := "ytlgcmcieipdcgaa", sum := "56938f03a718af3fdda01ab812ec638561eabc1ac198f5cb9758ddae9323f6e1", func := "careen/careenlaw06.PageAgain", spec := "pageAgain", apart := false, narrowed := true }
def PageAgainUptoSaid : Prop := pageAgainUptoRow.holds Try.pinned (OpenSpec.upto pageAgainSpec)

/-- 'careenlaw06.PageParts', WHERE WHAT IT READS IS OF BULK AT MOST 1048576: true; the input reads as it did. -/
def pagePartsUptoRow : OpenClaim := { program := "ytlgcmcieipdcgaa", sum := "56938f03a718af3fdda01ab812ec638561eabc1ac198f5cb9758ddae9323f6e1", func := "careen/careenlaw06.PageParts", spec := "pageParts", apart := false, narrowed := true }
def PagePartsUptoSaid : Prop := pagePartsUptoRow.holds Try.pinned (OpenSpec.upto pagePartsSpec)

/-- 'careenlaw06.PageUndo', WHERE WHAT IT READS IS OF BULK AT MOST 1048576: true; the input reads as it did. -/
def pageUndoUptoRow : OpenClaim := { program := "ytlgcmcieipdcgaa", sum := "56938f03a718af3fdda01ab812ec638561eabc1ac198f5cb9758ddae9323f6e1", func := "careen/careenlaw06.PageUndo", spec := "pageUndo", apart := false, narrowed := true }
def PageUndoUptoSaid : Prop := pageUndoUptoRow.holds Try.pinned (OpenSpec.upto pageUndoSpec)

/-- 'careenlaw14.RedoDoes', WHERE WHAT IT READS IS OF BULK AT MOST 1048576: true; the input reads as it did. -/
def redoDoesUptoRow : OpenClaim := { program := "ytlgcmcieipdcgaa", sum := "56938f03a718af3fdda01ab812ec638561eabc1ac198f5cb9758ddae9323f6e1", func := "careen/careenlaw14.RedoDoes", spec := "redoDoes", apart := false, narrowed := true }
def RedoDoesUptoSaid : Prop := redoDoesUptoRow.holds Try.pinned (OpenSpec.upto redoDoesSpec)

/-- 'careenlaw14.RedoWhole', WHERE WHAT IT READS IS OF BULK AT MOST 1048576: true; the input reads as it did. -/
def redoWholeUptoRow : OpenClaim := { program := "ytlgcmcieipdcgaa", sum := "56938f03a718af3fdda01ab812ec638561eabc1ac198f5cb9758ddae9323f6e1", func := "careen/careenlaw14.RedoWhole", spec := "redoWhole", apart := false, narrowed := true }
def RedoWholeUptoSaid : Prop := redoWholeUptoRow.holds Try.pinned (OpenSpec.upto redoWholeSpec)

/-- 'careenlaw14.RedoAgain', WHERE WHAT IT READS IS OF BULK AT MOST 1048576: true; the input reads as it did. -/
def redoAgainUptoRow : OpenClaim := { program := "ytlgcmcieipdcgaa", sum := "56938f03a718af3fdda01ab812ec638561eabc1ac198f5cb9758ddae9323f6e1", func := "careen/careenlaw14.RedoAgain", spec := "redoAgain", apart := false, narrowed := true }
def RedoAgainUptoSaid : Prop := redoAgainUptoRow.holds Try.pinned (OpenSpec.upto redoAgainSpec)

/-- 'careenlaw14.RedoApart', WHERE WHAT IT READS IS OF BULK AT MOST 1048576: true; the input reads as it did. -/
def redoApartUptoRow : OpenClaim := { program := "ytlgcmcieipdcgaa", sum := "56938f03a718af3fdda01ab812ec638561eabc1ac198f5cb9758ddae9323f6e1", func := "careen/careenlaw14.RedoApart", spec := "redoApart", apart := false, narrowed := true }
def RedoApartUptoSaid : Prop := redoApartUptoRow.holds Try.pinned (OpenSpec.upto redoApartSpec)

/-- 'careenlaw14.RedoSteps', WHERE WHAT IT READS IS OF BULK AT MOST 1048576: true; the input reads as it did. -/
def redoStepsUptoRow : OpenClaim := { program := "ytlgcmcieipdcgaa", sum := "56938f03a718af3fdda01ab812ec638561eabc1ac198f5cb9758ddae9323f6e1", func := "careen/careenlaw14.RedoSteps", spec := "redoSteps", apart := false, narrowed := true }
def RedoStepsUptoSaid : Prop := redoStepsUptoRow.holds Try.pinned (OpenSpec.upto redoStepsSpec)

/-- 'careenlaw06.PagePacks', WHERE WHAT IT READS IS OF BULK AT MOST 1048576: true; the input reads as it did. -/
def pagePacksUptoRow : OpenClaim := { program := "ytlgcmcieipdcgaa", sum := "56938f03a718af3fdda01ab812ec638561eabc1ac198f5cb9758ddae9323f6e1", func := "careen/careenlaw06.PagePacks", spec := "pagePacks", apart := false, narrowed := true }
def PagePacksUptoSaid : Prop := pagePacksUptoRow.holds Try.pinned (OpenSpec.upto pagePacksSpec)

/-- 'careenlaw01.SlabPacks', WHERE WHAT IT READS IS OF BULK AT MOST 1048576: true; the input reads as it did. -/
def slabPacksUptoRow : OpenClaim := { program := "ytlgcmcieipdcgaa", sum := "56938f03a718af3fdda01ab812ec638561eabc1ac198f5cb9758ddae9323f6e1", func := "careen/careenlaw01.SlabPacks", spec := "slabPacks", apart := false, narrowed := true }
def SlabPacksUptoSaid : Prop := slabPacksUptoRow.holds Try.pinned (OpenSpec.upto slabPacksSpec)

end Rows
end Go.Proofs.Ytlgcmcieipdcgaa
