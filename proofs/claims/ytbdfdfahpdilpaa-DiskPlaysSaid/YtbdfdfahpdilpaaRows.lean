/-
  No cell of these rows narrows 'for every input' (looked for: loops, veiled, ifaces, maps, wideKeys, modest, calm, conditions, laid).
  DERIVED. THE GIVEN ROWS OF THIS SEAT. 10 by the template 'for every input the law returns true; each argument reads behind the call as it read before'; 0 by the template 'total and deterministic' (their statements: YtbdfdfahpdilpaaTotals.lean).
  GIVEN WITH THE SEED: the statements are not yours to turn. If you find one false, say at which input.
  Laid BY PROGRAM, IN A SANDBOX (cutbox-rows.mjs): the forced cells as the released guide's own fill.sh prints them over the translation c874d4a2b645c4a8… (all of the seat's roots in one cut). By AI agents, Wed Nov 11 2026. No macro, syntax, notation, axiom, sorry.
-/
import Derived.Test.YtbdfdfahpdilpaaChecked
import GoSem.Claim
import GoSem.ClaimJoined
import GoSem.ClaimMapViews
import Derived.JoinedTies
import Derived.KernelRfl
namespace Go.Proofs.Ytbdfdfahpdilpaa
/- THE CELL 'sum', in the pinned program and in every row, IS THE sha256 OF THE DUMP (.gsa) THAT YtbdfdfahpdilpaaProg.lean LOADS. Nothing in Lean hashes anything: it is a label: what it is worth is what the hold of that sum in a sandbox is worth. -/
noncomputable def Try.pinned : Pinned := { name := "ytbdfdfahpdilpaa", sum := "c874d4a2b645c4a8b10c0ca044be31d081abbbd3dc22a4345464499d74a4eb98", checked := Try.checked }
namespace Rows
def none {H : Type} : Left H := { results := [], args := [] }

/-- 'careenlaw03.DiskSafe': WHATEVER THE INPUT: true; the input reads as it did. -/
def diskSafeSpec : ChangeSpec := { name := "diskSafe", fn := fun _ => fun
  | [d1, d2, d3] => { results := [.lit (.bool true)], args := [d1, d2, d3] }
  | _ => none }
def diskSafeRow : OpenClaim := { program := "ytbdfdfahpdilpaa", sum := "c874d4a2b645c4a8b10c0ca044be31d081abbbd3dc22a4345464499d74a4eb98", func := "careen/careenlaw03.DiskSafe", spec := "diskSafe", apart := false }
def DiskSafeSaid : Prop := diskSafeRow.holds Try.pinned (OpenSpec.ofChange diskSafeSpec)

/-- ITS FALSE NEIGHBOUR: 'it returns false'. Refute it at one input. -/
def diskSafeWrong : ChangeSpec := { name := "diskSafe", fn := fun _ => fun
  | [d1, d2, d3] => { results := [.lit (.bool false)], args := [d1, d2, d3] }
  | _ => none }
def DiskSafeWrongFalsely : Prop := diskSafeRow.holds Try.pinned (OpenSpec.ofChange diskSafeWrong)

/-- 'careenlaw03.DiskFuse': WHATEVER THE INPUT: true; the input reads as it did. -/
def diskFuseSpec : ChangeSpec := { name := "diskFuse", fn := fun _ => fun
  | [d1, d2] => { results := [.lit (.bool true)], args := [d1, d2] }
  | _ => none }
def diskFuseRow : OpenClaim := { program := "ytbdfdfahpdilpaa", sum := "c874d4a2b645c4a8b10c0ca044be31d081abbbd3dc22a4345464499d74a4eb98", func := "careen/careenlaw03.DiskFuse", spec := "diskFuse", apart := false }
def DiskFuseSaid : Prop := diskFuseRow.holds Try.pinned (OpenSpec.ofChange diskFuseSpec)

/-- ITS FALSE NEIGHBOUR: 'it returns false'. Refute it at one input. -/
def diskFuseWrong : ChangeSpec := { name := "diskFuse", fn := fun _ => fun
  | [d1, d2] => { results := [.lit (.bool false)], args := [d1, d2] }
  | _ => none }
def DiskFuseWrongFalsely : Prop := diskFuseRow.holds Try.pinned (OpenSpec.ofChange diskFuseWrong)

/-- 'careenlaw03.DiskLast': WHATEVER THE INPUT: true; the input reads as it did. -/
def diskLastSpec : ChangeSpec := { name := "diskLast", fn := fun _ => fun
  | [d1, d2, d3] => { results := [.lit (.bool true)], args := [d1, d2, d3] }
  | _ => none }
def diskLastRow : OpenClaim := { program := "ytbdfdfahpdilpaa", sum := "c874d4a2b645c4a8b10c0ca044be31d081abbbd3dc22a4345464499d74a4eb98", func := "careen/careenlaw03.DiskLast", spec := "diskLast", apart := false }
def DiskLastSaid : Prop := diskLastRow.holds Try.pinned (OpenSpec.ofChange diskLastSpec)

/-- ITS FALSE NEIGHBOUR: 'it returns false'. Refute it at one input. -/
def diskLastWrong : ChangeSpec := { name := "diskLast", fn := fun _ => fun
  | [d1, d2, d3] => { results := [.lit (.bool false)], args := [d1, d2, d3] }
  | _ => none }
def DiskLastWrongFalsely : Prop := diskLastRow.holds Try.pinned (OpenSpec.ofChange diskLastWrong)

/-- 'careenlaw03.DiskAll': WHATEVER THE INPUT: true; the input reads as it did. -/
def diskAllSpec : ChangeSpec := { name := "diskAll", fn := fun _ => fun
  | [d1, d2] => { results := [.lit (.bool true)], args := [d1, d2] }
  | _ => none }
def diskAllRow : OpenClaim := { program := "ytbdfdfahpdilpaa", sum := "c874d4a2b645c4a8b10c0ca044be31d081abbbd3dc22a4345464499d74a4eb98", func := "careen/careenlaw03.DiskAll", spec := "diskAll", inPlace := ["maps.clone"], apart := false }
def DiskAllSaid : Prop := diskAllRow.holds Try.pinned (OpenSpec.ofChange diskAllSpec)

/-- ITS FALSE NEIGHBOUR: 'it returns false'. Refute it at one input. -/
def diskAllWrong : ChangeSpec := { name := "diskAll", fn := fun _ => fun
  | [d1, d2] => { results := [.lit (.bool false)], args := [d1, d2] }
  | _ => none }
def DiskAllWrongFalsely : Prop := diskAllRow.holds Try.pinned (OpenSpec.ofChange diskAllWrong)

/-- 'careenlaw03.DiskPlays': WHATEVER THE INPUT: true; the input reads as it did. -/
def diskPlaysSpec : ChangeSpec := { name := "diskPlays", fn := fun _ => fun
  | [d1, d2] => { results := [.lit (.bool true)], args := [d1, d2] }
  | _ => none }
def diskPlaysRow : OpenClaim := { program := "ytbdfdfahpdilpaa", sum := "c874d4a2b645c4a8b10c0ca044be31d081abbbd3dc22a4345464499d74a4eb98", func := "careen/careenlaw03.DiskPlays", spec := "diskPlays", inPlace := ["maps.clone"], unfollowed := true, recurses := true, apart := false }
def DiskPlaysSaid : Prop := diskPlaysRow.holds Try.pinned (OpenSpec.ofChange diskPlaysSpec)

/-- ITS FALSE NEIGHBOUR: 'it returns false'. Refute it at one input. -/
def diskPlaysWrong : ChangeSpec := { name := "diskPlays", fn := fun _ => fun
  | [d1, d2] => { results := [.lit (.bool false)], args := [d1, d2] }
  | _ => none }
def DiskPlaysWrongFalsely : Prop := diskPlaysRow.holds Try.pinned (OpenSpec.ofChange diskPlaysWrong)

/-- 'careenlaw03.DiskNil': WHATEVER THE INPUT: true; the input reads as it did. -/
def diskNilSpec : ChangeSpec := { name := "diskNil", fn := fun _ => fun
  | [d1, d2, d3] => { results := [.lit (.bool true)], args := [d1, d2, d3] }
  | _ => none }
def diskNilRow : OpenClaim := { program := "ytbdfdfahpdilpaa", sum := "c874d4a2b645c4a8b10c0ca044be31d081abbbd3dc22a4345464499d74a4eb98", func := "careen/careenlaw03.DiskNil", spec := "diskNil", inPlace := ["maps.clone"], unfollowed := true, recurses := true, apart := false }
def DiskNilSaid : Prop := diskNilRow.holds Try.pinned (OpenSpec.ofChange diskNilSpec)

/-- ITS FALSE NEIGHBOUR: 'it returns false'. Refute it at one input. -/
def diskNilWrong : ChangeSpec := { name := "diskNil", fn := fun _ => fun
  | [d1, d2, d3] => { results := [.lit (.bool false)], args := [d1, d2, d3] }
  | _ => none }
def DiskNilWrongFalsely : Prop := diskNilRow.holds Try.pinned (OpenSpec.ofChange diskNilWrong)

/-- 'careenlaw12.MasterNil': WHATEVER THE INPUT: true; the input reads as it did. -/
def masterNilSpec : ChangeSpec := { name := "masterNil", fn := fun _ => fun
  | [d1, d2] => { results := [.lit (.bool true)], args := [d1, d2] }
  | _ => none }
def masterNilRow : OpenClaim := { program := "ytbdfdfahpdilpaa", sum := "c874d4a2b645c4a8b10c0ca044be31d081abbbd3dc22a4345464499d74a4eb98", func := "careen/careenlaw12.MasterNil", spec := "masterNil", apart := false }
def MasterNilSaid : Prop := masterNilRow.holds Try.pinned (OpenSpec.ofChange masterNilSpec)

/-- ITS FALSE NEIGHBOUR: 'it returns false'. Refute it at one input. -/
def masterNilWrong : ChangeSpec := { name := "masterNil", fn := fun _ => fun
  | [d1, d2] => { results := [.lit (.bool false)], args := [d1, d2] }
  | _ => none }
def MasterNilWrongFalsely : Prop := masterNilRow.holds Try.pinned (OpenSpec.ofChange masterNilWrong)

/-- 'careenlaw12.MasterTurns': WHATEVER THE INPUT: true; the input reads as it did. -/
def masterTurnsSpec : ChangeSpec := { name := "masterTurns", fn := fun _ => fun
  | [d] => { results := [.lit (.bool true)], args := [d] }
  | _ => none }
def masterTurnsRow : OpenClaim := { program := "ytbdfdfahpdilpaa", sum := "c874d4a2b645c4a8b10c0ca044be31d081abbbd3dc22a4345464499d74a4eb98", func := "careen/careenlaw12.MasterTurns", spec := "masterTurns", apart := false }
def MasterTurnsSaid : Prop := masterTurnsRow.holds Try.pinned (OpenSpec.ofChange masterTurnsSpec)

/-- ITS FALSE NEIGHBOUR: 'it returns false'. Refute it at one input. -/
def masterTurnsWrong : ChangeSpec := { name := "masterTurns", fn := fun _ => fun
  | [d] => { results := [.lit (.bool false)], args := [d] }
  | _ => none }
def MasterTurnsWrongFalsely : Prop := masterTurnsRow.holds Try.pinned (OpenSpec.ofChange masterTurnsWrong)

/-- 'careenlaw12.MasterOne': WHATEVER THE INPUT: true; the input reads as it did. -/
def masterOneSpec : ChangeSpec := { name := "masterOne", fn := fun _ => fun
  | [d] => { results := [.lit (.bool true)], args := [d] }
  | _ => none }
def masterOneRow : OpenClaim := { program := "ytbdfdfahpdilpaa", sum := "c874d4a2b645c4a8b10c0ca044be31d081abbbd3dc22a4345464499d74a4eb98", func := "careen/careenlaw12.MasterOne", spec := "masterOne", apart := false }
def MasterOneSaid : Prop := masterOneRow.holds Try.pinned (OpenSpec.ofChange masterOneSpec)

/-- ITS FALSE NEIGHBOUR: 'it returns false'. Refute it at one input. -/
def masterOneWrong : ChangeSpec := { name := "masterOne", fn := fun _ => fun
  | [d] => { results := [.lit (.bool false)], args := [d] }
  | _ => none }
def MasterOneWrongFalsely : Prop := masterOneRow.holds Try.pinned (OpenSpec.ofChange masterOneWrong)

/-- 'careenlaw12.MasterLost': WHATEVER THE INPUT: true; the input reads as it did. -/
def masterLostSpec : ChangeSpec := { name := "masterLost", fn := fun _ => fun
  | [d1, d2, d3] => { results := [.lit (.bool true)], args := [d1, d2, d3] }
  | _ => none }
def masterLostRow : OpenClaim := { program := "ytbdfdfahpdilpaa", sum := "c874d4a2b645c4a8b10c0ca044be31d081abbbd3dc22a4345464499d74a4eb98", func := "careen/careenlaw12.MasterLost", spec := "masterLost", unfollowed := true, recurses := true, apart := false }
def MasterLostSaid : Prop := masterLostRow.holds Try.pinned (OpenSpec.ofChange masterLostSpec)

/-- ITS FALSE NEIGHBOUR: 'it returns false'. Refute it at one input. -/
def masterLostWrong : ChangeSpec := { name := "masterLost", fn := fun _ => fun
  | [d1, d2, d3] => { results := [.lit (.bool false)], args := [d1, d2, d3] }
  | _ => none }
def MasterLostWrongFalsely : Prop := masterLostRow.holds Try.pinned (OpenSpec.ofChange masterLostWrong)

/- THE SECOND FORM. 'bulk': how many values and letters a reading holds, each counted each time it is reached (what is shared counts as often as it is met; a slice's spare places count too). A statement '..UptoSaid' is the law's where the arguments, and the package variables that the reading takes, are together of bulk at most 1048576: NARROWER than '..Said'. Prove '..Said' where nothing that the law and all that it calls make is longer than what came in: it says more and counts as full. Else prove '..UptoSaid'. A law counts once. -/
mutual
def uptoBulk {H : Type} : DataW H → Nat
  | .lit (.string bytes) => bytes.length + 1
  | .lit _ => 1
  | .nil => 1
  | .ptr d => uptoBulk d + 1
  | .slice elems spare => uptoBulkAll elems + uptoBulkAll spare + 1
  | .agg parts => uptoBulkAll parts + 1
  | .iface _ d => uptoBulk d + 1
  | .map entries => uptoBulkEntries entries + 1
  | .held _ => 1
def uptoBulkAll {H : Type} : List (DataW H) → Nat
  | [] => 0
  | d :: r => uptoBulk d + uptoBulkAll r
def uptoBulkEntries {H : Type} : List (Lit × DataW H) → Nat
  | [] => 0
  | x :: r => uptoBulkEntry x + uptoBulkEntries r
def uptoBulkEntry {H : Type} : Lit × DataW H → Nat
  | (.string bytes, d) => bytes.length + uptoBulk d + 1
  | (_, d) => uptoBulk d + 1
 end
def uptoSmall : (H : Type) → List (DataW H) → Bool := fun _ ds => decide (uptoBulkAll ds ≤ 1048576)
def OpenSpec.upto (s : _root_.Go.ChangeSpec) : _root_.Go.OpenSpec := { _root_.Go.OpenSpec.ofChange s with cond := some uptoSmall }

/-- 'careenlaw03.DiskSafe', WHERE WHAT IT READS IS OF BULK AT MOST 1048576: true; the input reads as it did. -/
def diskSafeUptoRow : OpenClaim := { program := "ytbdfdfahpdilpaa", sum := "c874d4a2b645c4a8b10c0ca044be31d081abbbd3dc22a4345464499d74a4eb98", func := "careen/careenlaw03.DiskSafe", spec := "diskSafe", apart := false, narrowed := true }
def DiskSafeUptoSaid : Prop := diskSafeUptoRow.holds Try.pinned (OpenSpec.upto diskSafeSpec)

/-- 'careenlaw03.DiskFuse', WHERE WHAT IT READS IS OF BULK AT MOST 1048576: true; the input reads as it did. -/
def diskFuseUptoRow : OpenClaim := { program := "ytbdfdfahpdilpaa", sum := "c874d4a2b645c4a8b10c0ca044be31d081abbbd3dc22a4345464499d74a4eb98", func := "careen/careenlaw03.DiskFuse", spec := "diskFuse", apart := false, narrowed := true }
def DiskFuseUptoSaid : Prop := diskFuseUptoRow.holds Try.pinned (OpenSpec.upto diskFuseSpec)

/-- 'careenlaw03.DiskLast', WHERE WHAT IT READS IS OF BULK AT MOST 1048576: true; the input reads as it did. -/
def diskLastUptoRow : OpenClaim := { program := "ytbdfdfahpdilpaa", sum := "c874d4a2b645c4a8b10c0ca044be31d081abbbd3dc22a4345464499d74a4eb98", func := "careen/careenlaw03.DiskLast", spec := "diskLast", apart := false, narrowed := true }
def DiskLastUptoSaid : Prop := diskLastUptoRow.holds Try.pinned (OpenSpec.upto diskLastSpec)

/-- 'careenlaw03.DiskAll', WHERE WHAT IT READS IS OF BULK AT MOST 1048576: true; the input reads as it did. -/
def diskAllUptoRow : OpenClaim := { program := "ytbdfdfahpdilpaa", sum := "c874d4a2b645c4a8b10c0ca044be31d081abbbd3dc22a4345464499d74a4eb98", func := "careen/careenlaw03.DiskAll", spec := "diskAll", inPlace := ["maps.clone"], apart := false, narrowed := true }
def DiskAllUptoSaid : Prop := diskAllUptoRow.holds Try.pinned (OpenSpec.upto diskAllSpec)

/-- 'careenlaw03.DiskPlays', WHERE WHAT IT READS IS OF BULK AT MOST 1048576: true; the input reads as it did. -/
def diskPlaysUptoRow : OpenClaim := { program := "ytbdfdfahpdilpaa", sum := "c874d4a2b645c4a8b10c0ca044be31d081abbbd3dc22a4345464499d74a4eb98", func := "careen/careenlaw03.DiskPlays", spec := "diskPlays", inPlace := ["maps.clone"], unfollowed := true, recurses := true, apart := false, narrowed := true }
def DiskPlaysUptoSaid : Prop := diskPlaysUptoRow.holds Try.pinned (OpenSpec.upto diskPlaysSpec)

/-- 'careenlaw03.DiskNil', WHERE WHAT IT READS IS OF BULK AT MOST 1048576: true; the input reads as it did. -/
def diskNilUptoRow : OpenClaim := { program := "ytbdfdfahpdilpaa", sum := "c874d4a2b645c4a8b10c0ca044be31d081abbbd3dc22a4345464499d74a4eb98", func := "careen/careenlaw03.DiskNil", spec := "diskNil", inPlace := ["maps.clone"], unfollowed := true, recurses := true, apart := false, narrowed := true }
def DiskNilUptoSaid : Prop := diskNilUptoRow.holds Try.pinned (OpenSpec.upto diskNilSpec)

/-- 'careenlaw12.MasterNil', WHERE WHAT IT READS IS OF BULK AT MOST 1048576: true; the input reads as it did. -/
def masterNilUptoRow : OpenClaim := { program := "ytbdfdfahpdilpaa", sum := "c874d4a2b645c4a8b10c0ca044be31d081abbbd3dc22a4345464499d74a4eb98", func := "careen/careenlaw12.MasterNil", spec := "masterNil", apart := false, narrowed := true }
def MasterNilUptoSaid : Prop := masterNilUptoRow.holds Try.pinned (OpenSpec.upto masterNilSpec)

/-- 'careenlaw12.MasterTurns', WHERE WHAT IT READS IS OF BULK AT MOST 1048576: true; the input reads as it did. -/
def masterTurnsUptoRow : OpenClaim := { program := "ytbdfdfahpdilpaa", sum := "c874d4a2b645c4a8b10c0ca044be31d081abbbd3dc22a4345464499d74a4eb98", func := "careen/careenlaw12.MasterTurns", spec := "masterTurns", apart := false, narrowed := true }
def MasterTurnsUptoSaid : Prop := masterTurnsUptoRow.holds Try.pinned (OpenSpec.upto masterTurnsSpec)

/-- 'careenlaw12.MasterOne', WHERE WHAT IT READS IS OF BULK AT MOST 1048576: true; the input reads as it did. -/
def masterOneUptoRow : OpenClaim := { program := "ytbdfdfahpdilpaa", sum := "c874d4a2b645c4a8b10c0ca044be31d081abbbd3dc22a4345464499d74a4eb98", func := "careen/careenlaw12.MasterOne", spec := "masterOne", apart := false, narrowed := true }
def MasterOneUptoSaid : Prop := masterOneUptoRow.holds Try.pinned (OpenSpec.upto masterOneSpec)

/-- 'careenlaw12.MasterLost', WHERE WHAT IT READS IS OF BULK AT MOST 1048576: true; the input reads as it did. -/
def masterLostUptoRow : OpenClaim := { program := "ytbdfdfahpdilpaa", sum := "c874d4a2b645c4a8b10c0ca044be31d081abbbd3dc22a4345464499d74a4eb98", func := "careen/careenlaw12.MasterLost", spec := "masterLost", unfollowed := true, recurses := true, apart := false, narrowed := true }
def MasterLostUptoSaid : Prop := masterLostUptoRow.holds Try.pinned (OpenSpec.upto masterLostSpec)

end Rows
end Go.Proofs.Ytbdfdfahpdilpaa
