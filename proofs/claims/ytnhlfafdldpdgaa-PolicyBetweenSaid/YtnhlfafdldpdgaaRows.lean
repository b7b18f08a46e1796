/-
  No cell of these rows narrows 'for every input' (looked for: loops, veiled, ifaces, maps, wideKeys, modest, calm, conditions, laid).
  DERIVED. THE GIVEN ROWS OF THIS SEAT. 14 by the template 'for every input the law returns true; each argument reads behind the call as it read before'; 0 by the template 'total and deterministic' (their statements: YtnhlfafdldpdgaaTotals.lean).
  GIVEN WITH THE SEED: the statements are not yours to turn. If you find one false, say at which input.
  Laid BY PROGRAM, IN A SANDBOX (cutbox-rows.mjs): the forced cells as the released guide's own fill.sh prints them over the translation 701d46b4a6d5888e… (all of the seat's roots in one cut). By AI agents, Wed Nov 11 2026. No macro, syntax, notation, axiom, sorry.
-/
import Derived.Test.YtnhlfafdldpdgaaChecked
import GoSem.Claim
import GoSem.ClaimJoined
import GoSem.ClaimMapViews
import Derived.JoinedTies
import Derived.KernelRfl
namespace Go.Proofs.Ytnhlfafdldpdgaa
/- THE CELL 'sum', in the pinned program and in every row, IS THE sha256 OF THE DUMP (.gsa) THAT YtnhlfafdldpdgaaProg.lean LOADS. Nothing in Lean hashes anything: it is a label: what it is worth is what the hold of that sum in a sandbox is worth. -/
noncomputable def Try.pinned : Pinned := { name := "ytnhlfafdldpdgaa", sum := "701d46b4a6d5888e3ff45019f96a5faaf2e7e52453c0d9374c40d9fb527752d1", checked := Try.checked }
namespace Rows
def none {H : Type} : Left H := { results := [], args := [] }

/-- 'careenlaw02.CellBytes': WHATEVER THE INPUT: true; the input reads as it did. -/
def cellBytesSpec : ChangeSpec := { name := "cellBytes", fn := fun _ => fun
  | [d1, d2] => { results := [.lit (.bool true)], args := [d1, d2] }
  | _ => none }
def cellBytesRow : OpenClaim := { program := "ytnhlfafdldpdgaa", sum := "701d46b4a6d5888e3ff45019f96a5faaf2e7e52453c0d9374c40d9fb527752d1", func := "careen/careenlaw02.CellBytes", spec := "cellBytes", inPlace := ["math.Float64bits", "math.Float64frombits"], apart := false }
def CellBytesSaid : Prop := cellBytesRow.holds Try.pinned (OpenSpec.ofChange cellBytesSpec)

/-- ITS FALSE NEIGHBOUR: 'it returns false'. Refute it at one input. -/
def cellBytesWrong : ChangeSpec := { name := "cellBytes", fn := fun _ => fun
  | [d1, d2] => { results := [.lit (.bool false)], args := [d1, d2] }
  | _ => none }
def CellBytesWrongFalsely : Prop := cellBytesRow.holds Try.pinned (OpenSpec.ofChange cellBytesWrong)

/-- 'careenlaw02.CellAdds': WHATEVER THE INPUT: true; the input reads as it did. -/
def cellAddsSpec : ChangeSpec := { name := "cellAdds", fn := fun _ => fun
  | [d1, d2] => { results := [.lit (.bool true)], args := [d1, d2] }
  | _ => none }
def cellAddsRow : OpenClaim := { program := "ytnhlfafdldpdgaa", sum := "701d46b4a6d5888e3ff45019f96a5faaf2e7e52453c0d9374c40d9fb527752d1", func := "careen/careenlaw02.CellAdds", spec := "cellAdds", inPlace := ["math.Float64bits", "math.Float64frombits"], apart := false }
def CellAddsSaid : Prop := cellAddsRow.holds Try.pinned (OpenSpec.ofChange cellAddsSpec)

/-- ITS FALSE NEIGHBOUR: 'it returns false'. Refute it at one input. -/
def cellAddsWrong : ChangeSpec := { name := "cellAdds", fn := fun _ => fun
  | [d1, d2] => { results := [.lit (.bool false)], args := [d1, d2] }
  | _ => none }
def CellAddsWrongFalsely : Prop := cellAddsRow.holds Try.pinned (OpenSpec.ofChange cellAddsWrong)

/-- 'careenlaw02.CellOrder': WHATEVER THE INPUT: true; the input reads as it did. -/
def cellOrderSpec : ChangeSpec := { name := "cellOrder", fn := fun _ => fun
  | [d1, d2, d3] => { results := [.lit (.bool true)], args := [d1, d2, d3] }
  | _ => none }
def cellOrderRow : OpenClaim := { program := "ytnhlfafdldpdgaa", sum := "701d46b4a6d5888e3ff45019f96a5faaf2e7e52453c0d9374c40d9fb527752d1", func := "careen/careenlaw02.CellOrder", spec := "cellOrder", inPlace := ["math.Float64bits", "math.Float64frombits"], apart := false }
def CellOrderSaid : Prop := cellOrderRow.holds Try.pinned (OpenSpec.ofChange cellOrderSpec)

/-- ITS FALSE NEIGHBOUR: 'it returns false'. Refute it at one input. -/
def cellOrderWrong : ChangeSpec := { name := "cellOrder", fn := fun _ => fun
  | [d1, d2, d3] => { results := [.lit (.bool false)], args := [d1, d2, d3] }
  | _ => none }
def CellOrderWrongFalsely : Prop := cellOrderRow.holds Try.pinned (OpenSpec.ofChange cellOrderWrong)

/-- 'careenlaw02.CellBack': WHATEVER THE INPUT: true; the input reads as it did. -/
def cellBackSpec : ChangeSpec := { name := "cellBack", fn := fun _ => fun
  | [d1, d2] => { results := [.lit (.bool true)], args := [d1, d2] }
  | _ => none }
def cellBackRow : OpenClaim := { program := "ytnhlfafdldpdgaa", sum := "701d46b4a6d5888e3ff45019f96a5faaf2e7e52453c0d9374c40d9fb527752d1", func := "careen/careenlaw02.CellBack", spec := "cellBack", inPlace := ["math.Float64bits", "math.Float64frombits"], apart := false }
def CellBackSaid : Prop := cellBackRow.holds Try.pinned (OpenSpec.ofChange cellBackSpec)

/-- ITS FALSE NEIGHBOUR: 'it returns false'. Refute it at one input. -/
def cellBackWrong : ChangeSpec := { name := "cellBack", fn := fun _ => fun
  | [d1, d2] => { results := [.lit (.bool false)], args := [d1, d2] }
  | _ => none }
def CellBackWrongFalsely : Prop := cellBackRow.holds Try.pinned (OpenSpec.ofChange cellBackWrong)

/-- 'careenlaw02.CellTwice': WHATEVER THE INPUT: true; the input reads as it did. -/
def cellTwiceSpec : ChangeSpec := { name := "cellTwice", fn := fun _ => fun
  | [d1, d2] => { results := [.lit (.bool true)], args := [d1, d2] }
  | _ => none }
def cellTwiceRow : OpenClaim := { program := "ytnhlfafdldpdgaa", sum := "701d46b4a6d5888e3ff45019f96a5faaf2e7e52453c0d9374c40d9fb527752d1", func := "careen/careenlaw02.CellTwice", spec := "cellTwice", inPlace := ["math.Float64frombits", "math.Float64bits"], apart := false }
def CellTwiceSaid : Prop := cellTwiceRow.holds Try.pinned (OpenSpec.ofChange cellTwiceSpec)

/-- ITS FALSE NEIGHBOUR: 'it returns false'. Refute it at one input. -/
def cellTwiceWrong : ChangeSpec := { name := "cellTwice", fn := fun _ => fun
  | [d1, d2] => { results := [.lit (.bool false)], args := [d1, d2] }
  | _ => none }
def CellTwiceWrongFalsely : Prop := cellTwiceRow.holds Try.pinned (OpenSpec.ofChange cellTwiceWrong)

/-- 'careenlaw02.CellRow': WHATEVER THE INPUT: true; the input reads as it did. -/
def cellRowSpec : ChangeSpec := { name := "cellRow", fn := fun _ => fun
  | [d] => { results := [.lit (.bool true)], args := [d] }
  | _ => none }
def cellRowRow : OpenClaim := { program := "ytnhlfafdldpdgaa", sum := "701d46b4a6d5888e3ff45019f96a5faaf2e7e52453c0d9374c40d9fb527752d1", func := "careen/careenlaw02.CellRow", spec := "cellRow", inPlace := ["math.Float64bits", "math.Float64frombits"], apart := false }
def CellRowSaid : Prop := cellRowRow.holds Try.pinned (OpenSpec.ofChange cellRowSpec)

/-- ITS FALSE NEIGHBOUR: 'it returns false'. Refute it at one input. -/
def cellRowWrong : ChangeSpec := { name := "cellRow", fn := fun _ => fun
  | [d] => { results := [.lit (.bool false)], args := [d] }
  | _ => none }
def CellRowWrongFalsely : Prop := cellRowRow.holds Try.pinned (OpenSpec.ofChange cellRowWrong)

/-- 'careenlaw02.CellFolds': WHATEVER THE INPUT: true; the input reads as it did. -/
def cellFoldsSpec : ChangeSpec := { name := "cellFolds", fn := fun _ => fun
  | [d] => { results := [.lit (.bool true)], args := [d] }
  | _ => none }
def cellFoldsRow : OpenClaim := { program := "ytnhlfafdldpdgaa", sum := "701d46b4a6d5888e3ff45019f96a5faaf2e7e52453c0d9374c40d9fb527752d1", func := "careen/careenlaw02.CellFolds", spec := "cellFolds", inPlace := ["math.Float64bits", "math.Float64frombits"], apart := false }
def CellFoldsSaid : Prop := cellFoldsRow.holds Try.pinned (OpenSpec.ofChange cellFoldsSpec)

/-- ITS FALSE NEIGHBOUR: 'it returns false'. Refute it at one input. -/
def cellFoldsWrong : ChangeSpec := { name := "cellFolds", fn := fun _ => fun
  | [d] => { results := [.lit (.bool false)], args := [d] }
  | _ => none }
def CellFoldsWrongFalsely : Prop := cellFoldsRow.holds Try.pinned (OpenSpec.ofChange cellFoldsWrong)

/-- 'careenlaw02.CellMost': WHATEVER THE INPUT: true; the input reads as it did. -/
def cellMostSpec : ChangeSpec := { name := "cellMost", fn := fun _ => fun
  | [d] => { results := [.lit (.bool true)], args := [d] }
  | _ => none }
def cellMostRow : OpenClaim := { program := "ytnhlfafdldpdgaa", sum := "701d46b4a6d5888e3ff45019f96a5faaf2e7e52453c0d9374c40d9fb527752d1", func := "careen/careenlaw02.CellMost", spec := "cellMost", inPlace := ["math.Float64bits", "math.Float64frombits"], apart := false }
def CellMostSaid : Prop := cellMostRow.holds Try.pinned (OpenSpec.ofChange cellMostSpec)

/-- ITS FALSE NEIGHBOUR: 'it returns false'. Refute it at one input. -/
def cellMostWrong : ChangeSpec := { name := "cellMost", fn := fun _ => fun
  | [d] => { results := [.lit (.bool false)], args := [d] }
  | _ => none }
def CellMostWrongFalsely : Prop := cellMostRow.holds Try.pinned (OpenSpec.ofChange cellMostWrong)

/-- 'careenlaw19.PolicyReckons': WHATEVER THE INPUT: true; the input reads as it did. -/
def policyReckonsSpec : ChangeSpec := { name := "policyReckons", fn := fun _ => fun
  | [d1, d2, d3, d4] => { results := [.lit (.bool true)], args := [d1, d2, d3, d4] }
  | _ => none }
def policyReckonsRow : OpenClaim := { program := "ytnhlfafdldpdgaa", sum := "701d46b4a6d5888e3ff45019f96a5faaf2e7e52453c0d9374c40d9fb527752d1", func := "careen/careenlaw19.PolicyReckons", spec := "policyReckons", inPlace := ["math.Float64frombits", "math.Float64bits"], apart := false }
def PolicyReckonsSaid : Prop := policyReckonsRow.holds Try.pinned (OpenSpec.ofChange policyReckonsSpec)

/-- ITS FALSE NEIGHBOUR: 'it returns false'. Refute it at one input. -/
def policyReckonsWrong : ChangeSpec := { name := "policyReckons", fn := fun _ => fun
  | [d1, d2, d3, d4] => { results := [.lit (.bool false)], args := [d1, d2, d3, d4] }
  | _ => none }
def PolicyReckonsWrongFalsely : Prop := policyReckonsRow.holds Try.pinned (OpenSpec.ofChange policyReckonsWrong)

/-- 'careenlaw19.PolicyVictim': WHATEVER THE INPUT: true; the input reads as it did. -/
def policyVictimSpec : ChangeSpec := { name := "policyVictim", fn := fun _ => fun
  | [d] => { results := [.lit (.bool true)], args := [d] }
  | _ => none }
def policyVictimRow : OpenClaim := { program := "ytnhlfafdldpdgaa", sum := "701d46b4a6d5888e3ff45019f96a5faaf2e7e52453c0d9374c40d9fb527752d1", func := "careen/careenlaw19.PolicyVictim", spec := "policyVictim", inPlace := ["math.Float64frombits", "math.Float64bits"], apart := false }
def PolicyVictimSaid : Prop := policyVictimRow.holds Try.pinned (OpenSpec.ofChange policyVictimSpec)

/-- ITS FALSE NEIGHBOUR: 'it returns false'. Refute it at one input. -/
def policyVictimWrong : ChangeSpec := { name := "policyVictim", fn := fun _ => fun
  | [d] => { results := [.lit (.bool false)], args := [d] }
  | _ => none }
def PolicyVictimWrongFalsely : Prop := policyVictimRow.holds Try.pinned (OpenSpec.ofChange policyVictimWrong)

/-- 'careenlaw19.PolicyMeters': WHATEVER THE INPUT: true; the input reads as it did. -/
def policyMetersSpec : ChangeSpec := { name := "policyMeters", fn := fun _ => fun
  | [d] => { results := [.lit (.bool true)], args := [d] }
  | _ => none }
def policyMetersRow : OpenClaim := { program := "ytnhlfafdldpdgaa", sum := "701d46b4a6d5888e3ff45019f96a5faaf2e7e52453c0d9374c40d9fb527752d1", func := "careen/careenlaw19.PolicyMeters", spec := "policyMeters", inPlace := ["math.Float64frombits", "math.Float64bits"], apart := false }
def PolicyMetersSaid : Prop := policyMetersRow.holds Try.pinned (OpenSpec.ofChange policyMetersSpec)

/-- ITS FALSE NEIGHBOUR: 'it returns false'. Refute it at one input. -/
def policyMetersWrong : ChangeSpec := { name := "policyMeters", fn := fun _ => fun
  | [d] => { results := [.lit (.bool false)], args := [d] }
  | _ => none }
def PolicyMetersWrongFalsely : Prop := policyMetersRow.holds Try.pinned (OpenSpec.ofChange policyMetersWrong)

/-- 'careenlaw19.PolicyTurns': WHATEVER THE INPUT: true; the input reads as it did. -/
def policyTurnsSpec : ChangeSpec := { name := "policyTurns", fn := fun _ => fun
  | [d1, d2] => { results := [.lit (.bool true)], args := [d1, d2] }
  | _ => none }
def policyTurnsRow : OpenClaim := { program := "ytnhlfafdldpdgaa", sum := "701d46b4a6d5888e3ff45019f96a5faaf2e7e52453c0d9374c40d9fb527752d1", func := "careen/careenlaw19.PolicyTurns", spec := "policyTurns", inPlace := ["math.Float64frombits", "math.Float64bits"], apart := false }
def PolicyTurnsSaid : Prop := policyTurnsRow.holds Try.pinned (OpenSpec.ofChange policyTurnsSpec)

/-- ITS FALSE NEIGHBOUR: 'it returns false'. Refute it at one input. -/
def policyTurnsWrong : ChangeSpec := { name := "policyTurns", fn := fun _ => fun
  | [d1, d2] => { results := [.lit (.bool false)], args := [d1, d2] }
  | _ => none }
def PolicyTurnsWrongFalsely : Prop := policyTurnsRow.holds Try.pinned (OpenSpec.ofChange policyTurnsWrong)

/-- 'careenlaw19.PolicyBetween': WHATEVER THE INPUT: true; the input reads as it did. -/
def policyBetweenSpec : ChangeSpec := { name := "policyBetween", fn := fun _ => fun
  | [d] => { results := [.lit (.bool true)], args := [d] }
  | _ => none }
def policyBetweenRow : OpenClaim := { program := "ytnhlfafdldpdgaa", sum := "701d46b4a6d5888e3ff45019f96a5faaf2e7e52453c0d9374c40d9fb527752d1", func := "careen/careenlaw19.PolicyBetween", spec := "policyBetween", inPlace := ["math.Float64frombits", "math.Float64bits"], apart := false }
def PolicyBetweenSaid : Prop := policyBetweenRow.holds Try.pinned (OpenSpec.ofChange policyBetweenSpec)

/-- ITS FALSE NEIGHBOUR: 'it returns false'. Refute it at one input. -/
def policyBetweenWrong : ChangeSpec := { name := "policyBetween", fn := fun _ => fun
  | [d] => { results := [.lit (.bool false)], args := [d] }
  | _ => none }
def PolicyBetweenWrongFalsely : Prop := policyBetweenRow.holds Try.pinned (OpenSpec.ofChange policyBetweenWrong)

/-- 'careenlaw19.PolicyDue': WHATEVER THE INPUT: true; the input reads as it did. -/
def policyDueSpec : ChangeSpec := { name := "policyDue", fn := fun _ => fun
  | [d1, d2, d3, d4, d5] => { results := [.lit (.bool true)], args := [d1, d2, d3, d4, d5] }
  | _ => none }
def policyDueRow : OpenClaim := { program := "ytnhlfafdldpdgaa", sum := "701d46b4a6d5888e3ff45019f96a5faaf2e7e52453c0d9374c40d9fb527752d1", func := "careen/careenlaw19.PolicyDue", spec := "policyDue", inPlace := ["math.Float64frombits", "math.Float64bits"], apart := false }
def PolicyDueSaid : Prop := policyDueRow.holds Try.pinned (OpenSpec.ofChange policyDueSpec)

/-- ITS FALSE NEIGHBOUR: 'it returns false'. Refute it at one input. -/
def policyDueWrong : ChangeSpec := { name := "policyDue", fn := fun _ => fun
  | [d1, d2, d3, d4, d5] => { results := [.lit (.bool false)], args := [d1, d2, d3, d4, d5] }
  | _ => none }
def PolicyDueWrongFalsely : Prop := policyDueRow.holds Try.pinned (OpenSpec.ofChange policyDueWrong)

/- THE SECOND FORM. 'bulk': how many values and letters a reading holds, each counted each time it is reached (what is shared counts as often as it is met; a slice's spare places count too). A statement '..UptoSaid' is the law's where the arguments, and the package variables that the reading takes, are together of bulk at most 1048576: NARROWER than '..Said'. Prove '..Said' where nothing that the law and all that it calls make is longer than what came in: it says more and counts as full. Else prove '..UptoSaid'. A law counts once. -/
mutual
def uptoBulk {H : Type} : DataW H → Nat
  | .lit (.string bytes) => bytes.length + 1
  | .lit _ => 1
  | .nil => 1
  | .ptr d => uptoBulk d + 1
  | .slice elems spare => uptoBulkAll elems + uptoBulkAll spare + 1
  | .agg parts => uptoBulkAll parts + 1
  | .iface _ d => uptoBulk d + 1
  | .map entries => uptoBulkEntries entries + 1
  | .held _ => 1
def uptoBulkAll {H : Type} : List (DataW H) → Nat
  | [] => 0
  | d :: r => uptoBulk d + uptoBulkAll r
def uptoBulkEntries {H : Type} : List (Lit × DataW H) → Nat
  | [] => 0
  | x :: r => uptoBulkEntry x + uptoBulkEntries r
def uptoBulkEntry {H : Type} : Lit × DataW H → Nat
  | (.string bytes, d) => bytes.length + uptoBulk d + 1
  | (_, d) => uptoBulk d + 1
 end
def uptoSmall : (H : Type) → List (DataW H) → Bool := fun _ ds => decide (uptoBulkAll ds ≤ 1048576)
def OpenSpec.upto (s : _root_.Go.ChangeSpec) : _root_.Go.OpenSpec := { _root_.Go.OpenSpec.ofChange s with cond := some uptoSmall }

/-- 'careenlaw02.CellBytes', WHERE WHAT IT READS IS OF BULK AT MOST 1048576: true; the input reads as it did. -/
def cellBytesUptoRow : OpenClaim := { program := "ytnhlfafdldpdgaa", sum := "701d46b4a6d5888e3ff45019f96a5faaf2e7e52453c0d9374c40d9fb527752d1", func := "careen/careenlaw02.CellBytes", spec := "cellBytes", inPlace := ["math.Float64bits", "math.Float64frombits"], apart := false, narrowed := true }
def CellBytesUptoSaid : Prop := cellBytesUptoRow.holds Try.pinned (OpenSpec.upto cellBytesSpec)

/-- 'careenlaw02.CellAdds', WHERE WHAT IT READS IS OF BULK AT MOST 1048576: true; the input reads as it did. -/
def cellAddsUptoRow : OpenClaim := { program := "ytnhlfafdldpdgaa", sum := "701d46b4a6d5888e3ff45019f96a5faaf2e7e52453c0d9374c40d9fb527752d1", func := "careen/careenlaw02.CellAdds", spec := "cellAdds", inPlace := ["math.Float64bits", "math.Float64frombits"], apart := false, narrowed := true }
def CellAddsUptoSaid : Prop := cellAddsUptoRow.holds Try.pinned (OpenSpec.upto cellAddsSpec)

/-- 'careenlaw02.CellOrder', WHERE WHAT IT READS IS OF BULK AT MOST 1048576: true; the input reads as it did. -/
def cellOrderUptoRow : OpenClaim := { program := "ytnhlfafdldpdgaa", sum := "701d46b4a6d5888e3ff45019f96a5faaf2e7e52453c0d9374c40d9fb527752d1", func := "careen/careenlaw02.CellOrder", spec := "cellOrder", inPlace := ["math.Float64bits", "math.Float64frombits"], apart := false, narrowed := true }
def CellOrderUptoSaid : Prop := cellOrderUptoRow.holds Try.pinned (OpenSpec.upto cellOrderSpec)

/-- 'careenlaw02.CellBack', WHERE WHAT IT READS IS OF BULK AT MOST 1048576: true; the input reads as it did. -/
def cellBackUptoRow : OpenClaim := { program := "ytnhlfafdldpdgaa", sum := "701d46b4a6d5888e3ff45019f96a5faaf2e7e52453c0d9374c40d9fb527752d1", func := "careen/careenlaw02.CellBack", spec := "cellBack", inPlace := ["math.Float64bits", "math.Float64frombits"], apart := false, narrowed := true }
def CellBackUptoSaid : Prop := cellBackUptoRow.holds Try.pinned (OpenSpec.upto cellBackSpec)

/-- 'careenlaw02.CellTwice', WHERE WHAT IT READS IS OF BULK AT MOST 1048576: true; the input reads as it did. -/
def cellTwiceUptoRow : OpenClaim := { program := "ytnhlfafdldpdgaa", sum := "701d46b4a6d5888e3ff45019f96a5faaf2e7e52453c0d9374c40d9fb527752d1", func := "careen/careenlaw02.CellTwice", spec := "cellTwice", inPlace := ["math.Float64frombits", "math.Float64bits"], apart := false, narrowed := true }
def CellTwiceUptoSaid : Prop := cellTwiceUptoRow.holds Try.pinned (OpenSpec.upto cellTwiceSpec)

/-- 'careenlaw02.CellRow', WHERE WHAT IT READS IS OF BULK AT MOST 1048576: true; the input reads as it did. -/
def cellRowUptoRow : OpenClaim := { program := "ytnhlfafdldpdgaa", sum := "701d46b4a6d5888e3ff45019f96a5faaf2e7e52453c0d9374c40d9fb527752d1", func := "careen/careenlaw02.CellRow", spec := "cellRow", inPlace := ["math.Float64bits", "math.Float64frombits"], apart := false, narrowed := true }
def CellRowUptoSaid : Prop := cellRowUptoRow.holds Try.pinned (OpenSpec.upto cellRowSpec)

/-- 'careenlaw02.CellFolds', WHERE WHAT IT READS IS OF BULK AT MOST 1048576: true; the input reads as it did. -/
def cellFoldsUptoRow : OpenClaim := { program := "ytnhlfafdldpdgaa", sum := "701d46b4a6d5888e3ff45019f96a5faaf2e7e52453c0d9374c40d9fb527752d1", func := "careen/careenlaw02.CellFolds", spec := "cellFolds", inPlace := ["math.Float64bits", "math.Float64frombits"], apart := false, narrowed := true }
def CellFoldsUptoSaid : Prop := cellFoldsUptoRow.holds Try.pinned (OpenSpec.upto cellFoldsSpec)

/-- 'careenlaw02.CellMost', WHERE WHAT IT READS IS OF BULK AT MOST 1048576: true; the input reads as it did. -/
def cellMostUptoRow : OpenClaim := { program := "ytnhlfafdldpdgaa", sum := "701d46b4a6d5888e3ff45019f96a5faaf2e7e52453c0d9374c40d9fb527752d1", func := "careen/careenlaw02.CellMost", spec := "cellMost", inPlace := ["math.Float64bits", "math.Float64frombits"], apart := false, narrowed := true }
def CellMostUptoSaid : Prop := cellMostUptoRow.holds Try.pinned (OpenSpec.upto cellMostSpec)

/-- 'careenlaw19.PolicyReckons', WHERE WHAT IT READS IS OF BULK AT MOST 1048576: true; the input reads as it did. -/
def policyReckonsUptoRow : OpenClaim := { program := "ytnhlfafdldpdgaa", sum := "701d46b4a6d5888e3ff45019f96a5faaf2e7e52453c0d9374c40d9fb527752d1", func := "careen/careenlaw19.PolicyReckons", spec := "policyReckons", inPlace := ["math.Float64frombits", "math.Float64bits"], apart := false, narrowed := true }
def PolicyReckonsUptoSaid : Prop := policyReckonsUptoRow.holds Try.pinned (OpenSpec.upto policyReckonsSpec)

/-- 'careenlaw19.PolicyVictim', WHERE WHAT IT READS IS OF BULK AT MOST 1048576: true; the input reads as it did. -/
def policyVictimUptoRow : OpenClaim := { program := "ytnhlfafdldpdgaa", sum := "701d46b4a6d5888e3ff45019f96a5faaf2e7e52453c0d9374c40d9fb527752d1", func := "careen/careenlaw19.PolicyVictim", spec := "policyVictim", inPlace := ["math.Float64frombits", "math.Float64bits"], apart := false, narrowed := true }
def PolicyVictimUptoSaid : Prop := policyVictimUptoRow.holds Try.pinned (OpenSpec.upto policyVictimSpec)

/-- 'careenlaw19.PolicyMeters', WHERE WHAT IT READS IS OF BULK AT MOST 1048576: true; the input reads as it did. -/
def policyMetersUptoRow : OpenClaim := { program := "ytnhlfafdldpdgaa", sum := "701d46b4a6d5888e3ff45019f96a5faaf2e7e52453c0d9374c40d9fb527752d1", func := "careen/careenlaw19.PolicyMeters", spec := "policyMeters", inPlace := ["math.Float64frombits", "math.Float64bits"], apart := false, narrowed := true }
def PolicyMetersUptoSaid : Prop := policyMetersUptoRow.holds Try.pinned (OpenSpec.upto policyMetersSpec)

/-- 'careenlaw19.PolicyTurns', WHERE WHAT IT READS IS OF BULK AT MOST 1048576: true; the input reads as it did. -/
def policyTurnsUptoRow : OpenClaim := { program := "ytnhlfafdldpdgaa", sum := "701d46b4a6d5888e3ff45019f96a5faaf2e7e52453c0d9374c40d9fb527752d1", func := "careen/careenlaw19.PolicyTurns", spec := "policyTurns", inPlace := ["math.Float64frombits", "math.Float64bits"], apart := false, narrowed := true }
def PolicyTurnsUptoSaid : Prop := policyTurnsUptoRow.holds Try.pinned (OpenSpec.upto policyTurnsSpec)

/-- 'careenlaw19.PolicyBetween', WHERE WHAT IT READS IS OF BULK AT MOST 1048576: true; the input reads as it did. -/
def policyBetweenUptoRow : OpenClaim := { program := "ytnhlfafdldpdgaa", sum := "701d46b4a6d5888e3ff45019f96a5faaf2e7e52453c0d9374c40d9fb527752d1", func := "careen/careenlaw19.PolicyBetween", spec := "policyBetween", inPlace := ["math.Float64frombits", "math.Float64bits"], apart := false, narrowed := true }
def PolicyBetweenUptoSaid : Prop := policyBetweenUptoRow.holds Try.pinned (OpenSpec.upto policyBetweenSpec)

/-- 'careenlaw19.PolicyDue', WHERE WHAT IT READS IS OF BULK AT MOST 1048576: true; the input reads as it did. -/
def policyDueUptoRow : OpenClaim := { program := "ytnhlfafdldpdgaa", sum := "701d46b4a6d5888e3ff45019f96a5faaf2e7e52453c0d9374c40d9fb527752d1", func := "careen/careenlaw19.PolicyDue", spec := "policyDue", inPlace := ["math.Float64frombits", "math.Float64bits"], apart := false, narrowed := true }
def PolicyDueUptoSaid : Prop := policyDueUptoRow.holds Try.pinned (OpenSpec.upto policyDueSpec)

end Rows
end Go.Proofs.Ytnhlfafdldpdgaa
