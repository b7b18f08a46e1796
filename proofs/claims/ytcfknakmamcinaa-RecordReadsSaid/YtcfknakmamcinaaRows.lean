/-
  No cell of these rows narrows 'for every input' (looked for: loops, veiled, ifaces, maps, wideKeys, modest, calm, conditions, laid).
  DERIVED. THE GIVEN ROWS OF THIS SEAT. 8 by the template 'for every input the law returns true; each argument reads behind the call as it read before'; 0 by the template 'total and deterministic' (their statements: YtcfknakmamcinaaTotals.lean).
  GIVEN WITH THE SEED: the statements are not yours to turn. If you find one false, say at which input.
  Laid BY PROGRAM, IN A SANDBOX (cutbox-rows.mjs): the forced cells as the released guide's own fill.sh prints them over the translation 91856af1f0cee8c7… (all of the seat's roots in one cut). By AI agents, Wed Nov 11 2026. No macro, syntax, notation, axiom, sorry.
-/
import Derived.Test.YtcfknakmamcinaaChecked
import GoSem.Claim
import GoSem.ClaimJoined
import GoSem.ClaimMapViews
import Derived.JoinedTies
import Derived.KernelRfl
namespace Go.Proofs.Ytcfknakmamcinaa
/- THE CELL 'sum', in the pinned program and in every row, IS THE sha256 OF THE DUMP (.gsa) THAT YtcfknakmamcinaaProg.lean LOADS. Nothing in Lean hashes anything: it is a label: what it is worth is what the hold of that sum in a sandbox is worth. -/
noncomputable def Try.pinned : Pinned := { name := "ytcfknakmamcinaa", sum := "91856af1f0cee8c7073be15ad7c729df1c2cca919c0ecaa7f293cd661ebf50b9", checked := Try.checked }
namespace Rows
def none {H : Type} : Left H := { results := [], args := [] }

/-- 'careenlaw04.RecordPrints': WHATEVER THE INPUT: true; the input reads as it did. -/
def recordPrintsSpec : ChangeSpec := { name := "recordPrints", fn := fun _ => fun
  | [d] => { results := [.lit (.bool true)], args := [d] }
  | _ => none }
def recordPrintsRow : OpenClaim := { program := "ytcfknakmamcinaa", sum := "91856af1f0cee8c7073be15ad7c729df1c2cca919c0ecaa7f293cd661ebf50b9", func := "careen/careenlaw04.RecordPrints", spec := "recordPrints", inPlace := ["internal/abi.NoEscape"], apart := false }
def RecordPrintsSaid : Prop := recordPrintsRow.holds Try.pinned (OpenSpec.ofChange recordPrintsSpec)

/-- ITS FALSE NEIGHBOUR: 'it returns false'. Refute it at one input. -/
def recordPrintsWrong : ChangeSpec := { name := "recordPrints", fn := fun _ => fun
  | [d] => { results := [.lit (.bool false)], args := [d] }
  | _ => none }
def RecordPrintsWrongFalsely : Prop := recordPrintsRow.holds Try.pinned (OpenSpec.ofChange recordPrintsWrong)

/-- 'careenlaw04.RecordBack': WHATEVER THE INPUT: true; the input reads as it did. -/
def recordBackSpec : ChangeSpec := { name := "recordBack", fn := fun _ => fun
  | [d1, d2, d3, d4] => { results := [.lit (.bool true)], args := [d1, d2, d3, d4] }
  | _ => none }
def recordBackRow : OpenClaim := { program := "ytcfknakmamcinaa", sum := "91856af1f0cee8c7073be15ad7c729df1c2cca919c0ecaa7f293cd661ebf50b9", func := "careen/careenlaw04.RecordBack", spec := "recordBack", inPlace := ["internal/abi.NoEscape"], apart := false }
def RecordBackSaid : Prop := recordBackRow.holds Try.pinned (OpenSpec.ofChange recordBackSpec)

/-- ITS FALSE NEIGHBOUR: 'it returns false'. Refute it at one input. -/
def recordBackWrong : ChangeSpec := { name := "recordBack", fn := fun _ => fun
  | [d1, d2, d3, d4] => { results := [.lit (.bool false)], args := [d1, d2, d3, d4] }
  | _ => none }
def RecordBackWrongFalsely : Prop := recordBackRow.holds Try.pinned (OpenSpec.ofChange recordBackWrong)

/-- 'careenlaw04.RecordSame': WHATEVER THE INPUT: true; the input reads as it did. -/
def recordSameSpec : ChangeSpec := { name := "recordSame", fn := fun _ => fun
  | [d1, d2] => { results := [.lit (.bool true)], args := [d1, d2] }
  | _ => none }
def recordSameRow : OpenClaim := { program := "ytcfknakmamcinaa", sum := "91856af1f0cee8c7073be15ad7c729df1c2cca919c0ecaa7f293cd661ebf50b9", func := "careen/careenlaw04.RecordSame", spec := "recordSame", inPlace := ["internal/abi.NoEscape"], apart := false }
def RecordSameSaid : Prop := recordSameRow.holds Try.pinned (OpenSpec.ofChange recordSameSpec)

/-- ITS FALSE NEIGHBOUR: 'it returns false'. Refute it at one input. -/
def recordSameWrong : ChangeSpec := { name := "recordSame", fn := fun _ => fun
  | [d1, d2] => { results := [.lit (.bool false)], args := [d1, d2] }
  | _ => none }
def RecordSameWrongFalsely : Prop := recordSameRow.holds Try.pinned (OpenSpec.ofChange recordSameWrong)

/-- 'careenlaw04.RecordOne': WHATEVER THE INPUT: true; the input reads as it did. -/
def recordOneSpec : ChangeSpec := { name := "recordOne", fn := fun _ => fun
  | [d1, d2] => { results := [.lit (.bool true)], args := [d1, d2] }
  | _ => none }
def recordOneRow : OpenClaim := { program := "ytcfknakmamcinaa", sum := "91856af1f0cee8c7073be15ad7c729df1c2cca919c0ecaa7f293cd661ebf50b9", func := "careen/careenlaw04.RecordOne", spec := "recordOne", inPlace := ["internal/abi.NoEscape"], apart := false }
def RecordOneSaid : Prop := recordOneRow.holds Try.pinned (OpenSpec.ofChange recordOneSpec)

/-- ITS FALSE NEIGHBOUR: 'it returns false'. Refute it at one input. -/
def recordOneWrong : ChangeSpec := { name := "recordOne", fn := fun _ => fun
  | [d1, d2] => { results := [.lit (.bool false)], args := [d1, d2] }
  | _ => none }
def RecordOneWrongFalsely : Prop := recordOneRow.holds Try.pinned (OpenSpec.ofChange recordOneWrong)

/-- 'careenlaw04.RecordTold': WHATEVER THE INPUT: true; the input reads as it did. -/
def recordToldSpec : ChangeSpec := { name := "recordTold", fn := fun _ => fun
  | [d1, d2] => { results := [.lit (.bool true)], args := [d1, d2] }
  | _ => none }
def recordToldRow : OpenClaim := { program := "ytcfknakmamcinaa", sum := "91856af1f0cee8c7073be15ad7c729df1c2cca919c0ecaa7f293cd661ebf50b9", func := "careen/careenlaw04.RecordTold", spec := "recordTold", inPlace := ["internal/abi.NoEscape"], apart := false }
def RecordToldSaid : Prop := recordToldRow.holds Try.pinned (OpenSpec.ofChange recordToldSpec)

/-- ITS FALSE NEIGHBOUR: 'it returns false'. Refute it at one input. -/
def recordToldWrong : ChangeSpec := { name := "recordTold", fn := fun _ => fun
  | [d1, d2] => { results := [.lit (.bool false)], args := [d1, d2] }
  | _ => none }
def RecordToldWrongFalsely : Prop := recordToldRow.holds Try.pinned (OpenSpec.ofChange recordToldWrong)

/-- 'careenlaw04.RecordLong': WHATEVER THE INPUT: true; the input reads as it did. -/
def recordLongSpec : ChangeSpec := { name := "recordLong", fn := fun _ => fun
  | [d] => { results := [.lit (.bool true)], args := [d] }
  | _ => none }
def recordLongRow : OpenClaim := { program := "ytcfknakmamcinaa", sum := "91856af1f0cee8c7073be15ad7c729df1c2cca919c0ecaa7f293cd661ebf50b9", func := "careen/careenlaw04.RecordLong", spec := "recordLong", inPlace := ["internal/abi.NoEscape"], apart := false }
def RecordLongSaid : Prop := recordLongRow.holds Try.pinned (OpenSpec.ofChange recordLongSpec)

/-- ITS FALSE NEIGHBOUR: 'it returns false'. Refute it at one input. -/
def recordLongWrong : ChangeSpec := { name := "recordLong", fn := fun _ => fun
  | [d] => { results := [.lit (.bool false)], args := [d] }
  | _ => none }
def RecordLongWrongFalsely : Prop := recordLongRow.holds Try.pinned (OpenSpec.ofChange recordLongWrong)

/-- 'careenlaw04.RecordReads': WHATEVER THE INPUT: true; the input reads as it did. -/
def recordReadsSpec : ChangeSpec := { name := "recordReads", fn := fun _ => fun
  | [d1, d2] => { results := [.lit (.bool true)], args := [d1, d2] }
  | _ => none }
def recordReadsRow : OpenClaim := { program := "ytcfknakmamcinaa", sum := "91856af1f0cee8c7073be15ad7c729df1c2cca919c0ecaa7f293cd661ebf50b9", func := "careen/careenlaw04.RecordReads", spec := "recordReads", inPlace := ["internal/abi.NoEscape"], apart := false }
def RecordReadsSaid : Prop := recordReadsRow.holds Try.pinned (OpenSpec.ofChange recordReadsSpec)

/-- ITS FALSE NEIGHBOUR: 'it returns false'. Refute it at one input. -/
def recordReadsWrong : ChangeSpec := { name := "recordReads", fn := fun _ => fun
  | [d1, d2] => { results := [.lit (.bool false)], args := [d1, d2] }
  | _ => none }
def RecordReadsWrongFalsely : Prop := recordReadsRow.holds Try.pinned (OpenSpec.ofChange recordReadsWrong)

/-- 'careenlaw04.RecordRow': WHATEVER THE INPUT: true; the input reads as it did. -/
def recordRowSpec : ChangeSpec := { name := "recordRow", fn := fun _ => fun
  | [d] => { results := [.lit (.bool true)], args := [d] }
  | _ => none }
def recordRowRow : OpenClaim := { program := "ytcfknakmamcinaa", sum := "91856af1f0cee8c7073be15ad7c729df1c2cca919c0ecaa7f293cd661ebf50b9", func := "careen/careenlaw04.RecordRow", spec := "recordRow", inPlace := ["internal/abi.NoEscape"], apart := false }
def RecordRowSaid : Prop := recordRowRow.holds Try.pinned (OpenSpec.ofChange recordRowSpec)

/-- ITS FALSE NEIGHBOUR: 'it returns false'. Refute it at one input. -/
def recordRowWrong : ChangeSpec := { name := "recordRow", fn := fun _ => fun
  | [d] => { results := [.lit (.bool false)], args := [d] }
  | _ => none }
def RecordRowWrongFalsely : Prop := recordRowRow.holds Try.pinned (OpenSpec.ofChange recordRowWrong)

/- THE SECOND FORM. 'bulk': how many values and letters a reading holds, each counted each time it is reached (what is shared counts as often as it is met; a slice's spare places count too). A statement '..UptoSaid' is the law's where the arguments, and the package variables that the reading takes, are together of bulk at most 1048576: NARROWER than '..Said'. Prove '..Said' where nothing that the law and all that it calls make is longer than what came in: it says more and counts as full. Else prove '..UptoSaid'. A law counts once. -/
mutual
def uptoBulk {H : Type} : DataW H → Nat
  | .lit (.string bytes) => bytes.length + 1
  | .lit _ => 1
  | .nil => 1
  | .ptr d => uptoBulk d + 1
  | .slice elems spare => uptoBulkAll elems + uptoBulkAll spare + 1
  | .agg parts => uptoBulkAll parts + 1
  | .iface _ d => uptoBulk d + 1
  | .map entries => uptoBulkEntries entries + 1
  | .held _ => 1
def uptoBulkAll {H : Type} : List (DataW H) → Nat
  | [] => 0
  | d :: r => uptoBulk d + uptoBulkAll r
def uptoBulkEntries {H : Type} : List (Lit × DataW H) → Nat
  | [] => 0
  | x :: r => uptoBulkEntry x + uptoBulkEntries r
def uptoBulkEntry {H : Type} : Lit × DataW H → Nat
  | (.string bytes, d) => bytes.length + uptoBulk d + 1
  | (_, d) => uptoBulk d + 1
 end
def uptoSmall : (H : Type) → List (DataW H) → Bool := fun _ ds => decide (uptoBulkAll ds ≤ 1048576)
def OpenSpec.upto (s : _root_.Go.ChangeSpec) : _root_.Go.OpenSpec := { _root_.Go.OpenSpec.ofChange s with cond := some uptoSmall }

/-- 'careenlaw04.RecordPrints', WHERE WHAT IT READS IS OF BULK AT MOST 1048576: true; the input reads as it did. -/
def recordPrintsUptoRow : OpenClaim := { program := "ytcfknakmamcinaa", sum := "91856af1f0cee8c7073be15ad7c729df1c2cca919c0ecaa7f293cd661ebf50b9", func := "careen/careenlaw04.RecordPrints", spec := "recordPrints", inPlace := ["internal/abi.NoEscape"], apart := false, narrowed := true }
def RecordPrintsUptoSaid : Prop := recordPrintsUptoRow.holds Try.pinned (OpenSpec.upto recordPrintsSpec)

/-- 'careenlaw04.RecordBack', WHERE WHAT IT READS IS OF BULK AT MOST 1048576: true; the input reads as it did. -/
def recordBackUptoRow : OpenClaim := { program := "ytcfknakmamcinaa", sum := "91856af1f0cee8c7073be15ad7c729df1c2cca919c0ecaa7f293cd661ebf50b9", func := "careen/careenlaw04.RecordBack", spec := "recordBack", inPlace := ["internal/abi.NoEscape"], apart := false, narrowed := true }
def RecordBackUptoSaid : Prop := recordBackUptoRow.holds Try.pinned (OpenSpec.upto recordBackSpec)

/-- 'careenlaw04.RecordSame', WHERE WHAT IT READS IS OF BULK AT MOST 1048576: true; the input reads as it did. -/
def recordSameUptoRow : OpenClaim := { program := "ytcfknakmamcinaa", sum := "91856af1f0cee8c7073be15ad7c729df1c2cca919c0ecaa7f293cd661ebf50b9", func := "careen/careenlaw04.RecordSame", spec := "recordSame", inPlace := ["internal/abi.NoEscape"], apart := false, narrowed := true }
def RecordSameUptoSaid : Prop := recordSameUptoRow.holds Try.pinned (OpenSpec.upto recordSameSpec)

/-- 'careenlaw04.RecordOne', WHERE WHAT IT READS IS OF BULK AT MOST 1048576: true; the input reads as it did. -/
def recordOneUptoRow : OpenClaim := { program := "ytcfknakmamcinaa", sum := "91856af1f0cee8c7073be15ad7c729df1c2cca919c0ecaa7f293cd661ebf50b9", func := "careen/careenlaw04.RecordOne", spec := "recordOne", inPlace := ["internal/abi.NoEscape"], apart := false, narrowed := true }
def RecordOneUptoSaid : Prop := recordOneUptoRow.holds Try.pinned (OpenSpec.upto recordOneSpec)

/-- 'careenlaw04.RecordTold', WHERE WHAT IT READS IS OF BULK AT MOST 1048576: true; the input reads as it did. -/
def recordToldUptoRow : OpenClaim := { program := "ytcfknakmamcinaa", sum := "91856af1f0cee8c7073be15ad7c729df1c2cca919c0ecaa7f293cd661ebf50b9", func := "careen/careenlaw04.RecordTold", spec := "recordTold", inPlace := ["internal/abi.NoEscape"], apart := false, narrowed := true }
def RecordToldUptoSaid : Prop := recordToldUptoRow.holds Try.pinned (OpenSpec.upto recordToldSpec)

/-- 'careenlaw04.RecordLong', WHERE WHAT IT READS IS OF BULK AT MOST 1048576: true; the input reads as it did. -/
def recordLongUptoRow : OpenClaim := { program := "ytcfknakmamcinaa", sum := "91856af1f0cee8c7073be15ad7c729df1c2cca919c0ecaa7f293cd661ebf50b9", func := "careen/careenlaw04.RecordLong", spec := "recordLong", inPlace := ["internal/abi.NoEscape"], apart := false, narrowed := true }
def RecordLongUptoSaid : Prop := recordLongUptoRow.holds Try.pinned (OpenSpec.upto recordLongSpec)

/-- 'careenlaw04.RecordReads', WHERE WHAT IT READS IS OF BULK AT MOST 1048576: true; the input reads as it did. -/
def recordReadsUptoRow : OpenClaim := { program := "ytcfknakmamcinaa", sum := "91856af1f0cee8c7073be15ad7c729df1c2cca919c0ecaa7f293cd661ebf50b9", func := "careen/careenlaw04.RecordReads", spec := "recordReads", inPlace := ["internal/abi.NoEscape"], apart := false, narrowed := true }
def RecordReadsUptoSaid : Prop := recordReadsUptoRow.holds Try.pinned (OpenSpec.upto recordReadsSpec)

/-- 'careenlaw04.RecordRow', WHERE WHAT IT READS IS OF BULK AT MOST 1048576: true; the input reads as it did. -/
def recordRowUptoRow : OpenClaim := { program := "ytcfknakmamcinaa", sum := "91856af1f0cee8c7073be15ad7c729df1c2cca919c0ecaa7f293cd661ebf50b9", func := "careen/careenlaw04.RecordRow", spec := "recordRow", inPlace := ["internal/abi.NoEscape"], apart := false, narrowed := true }
def RecordRowUptoSaid : Prop := recordRowUptoRow.holds Try.pinned (OpenSpec.upto recordRowSpec)

end Rows
end Go.Proofs.Ytcfknakmamcinaa
