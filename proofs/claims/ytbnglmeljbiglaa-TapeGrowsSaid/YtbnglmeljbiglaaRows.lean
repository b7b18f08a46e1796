/-
  No cell of these rows narrows 'for every input' (looked for: loops, veiled, ifaces, maps, wideKeys, modest, calm, conditions, laid).
  DERIVED. THE GIVEN ROWS OF THIS SEAT. 8 by the template 'for every input the law returns true; each argument reads behind the call as it read before'; 0 by the template 'total and deterministic' (their statements: YtbnglmeljbiglaaTotals.lean).
  GIVEN WITH THE SEED: the statements are not yours to turn. If you find one false, say at which input.
  Laid BY PROGRAM, IN A SANDBOX (cutbox-rows.mjs): the forced cells as the released guide's own fill.sh prints them over the translation cc2fa68307c4d077… (all of the seat's roots in one cut). By AI agents, Wed Nov 11 2026. No macro, syntax, notation, axiom, sorry.
-/
import Derived.Test.YtbnglmeljbiglaaChecked
import GoSem.Claim
import GoSem.ClaimJoined
import GoSem.ClaimMapViews
import Derived.JoinedTies
import Derived.KernelRfl
namespace Go.Proofs.Ytbnglmeljbiglaa
/- THE CELL 'sum', in the pinned program and in every row, IS THE sha256 OF THE DUMP (.gsa) THAT YtbnglmeljbiglaaProg.lean LOADS. Nothing in Lean hashes anything: it is a label: what it is worth is what the hold of that sum in a sandbox is worth. -/
noncomputable def Try.pinned : Pinned := { name := "ytbnglmeljbiglaa", sum := "cc2fa68307c4d0776b01829256463addb3e32e6db67dfc4a4e87e61f1b8b1870", checked := Try.checked }
namespace Rows
def none {H : Type} : Left H := { results := [], args := [] }

/-- 'careenlaw05.WalKeeps': WHATEVER THE INPUT: true; the input reads as it did. -/
def walKeepsSpec : ChangeSpec := { name := "walKeeps", fn := fun _ => fun
  | [d1, d2] => { results := [.lit (.bool true)], args := [d1, d2] }
  | _ => none }
def walKeepsRow : OpenClaim := { program := "ytbnglmeljbiglaa", sum := "cc2fa68307c4d0776b01829256463addb3e32e6db67dfc4a4e87e61f1b8b1870", func := "careen/careenlaw05.WalKeeps", spec := "walKeeps", inPlace := ["internal/abi.NoEscape"], apart := false }
def WalKeepsSaid : Prop := walKeepsRow.holds Try.pinned (OpenSpec.ofChange walKeepsSpec)

/-- ITS FALSE NEIGHBOUR: 'it returns false'. Refute it at one input. -/
def walKeepsWrong : ChangeSpec := { name := "walKeeps", fn := fun _ => fun
  | [d1, d2] => { results := [.lit (.bool false)], args := [d1, d2] }
  | _ => none }
def WalKeepsWrongFalsely : Prop := walKeepsRow.holds Try.pinned (OpenSpec.ofChange walKeepsWrong)

/-- 'careenlaw05.WalSafe': WHATEVER THE INPUT: true; the input reads as it did. -/
def walSafeSpec : ChangeSpec := { name := "walSafe", fn := fun _ => fun
  | [d1, d2] => { results := [.lit (.bool true)], args := [d1, d2] }
  | _ => none }
def walSafeRow : OpenClaim := { program := "ytbnglmeljbiglaa", sum := "cc2fa68307c4d0776b01829256463addb3e32e6db67dfc4a4e87e61f1b8b1870", func := "careen/careenlaw05.WalSafe", spec := "walSafe", inPlace := ["internal/abi.NoEscape"], apart := false }
def WalSafeSaid : Prop := walSafeRow.holds Try.pinned (OpenSpec.ofChange walSafeSpec)

/-- ITS FALSE NEIGHBOUR: 'it returns false'. Refute it at one input. -/
def walSafeWrong : ChangeSpec := { name := "walSafe", fn := fun _ => fun
  | [d1, d2] => { results := [.lit (.bool false)], args := [d1, d2] }
  | _ => none }
def WalSafeWrongFalsely : Prop := walSafeRow.holds Try.pinned (OpenSpec.ofChange walSafeWrong)

/-- 'careenlaw05.WalRoom': WHATEVER THE INPUT: true; the input reads as it did. -/
def walRoomSpec : ChangeSpec := { name := "walRoom", fn := fun _ => fun
  | [d1, d2, d3] => { results := [.lit (.bool true)], args := [d1, d2, d3] }
  | _ => none }
def walRoomRow : OpenClaim := { program := "ytbnglmeljbiglaa", sum := "cc2fa68307c4d0776b01829256463addb3e32e6db67dfc4a4e87e61f1b8b1870", func := "careen/careenlaw05.WalRoom", spec := "walRoom", inPlace := ["internal/abi.NoEscape"], apart := false }
def WalRoomSaid : Prop := walRoomRow.holds Try.pinned (OpenSpec.ofChange walRoomSpec)

/-- ITS FALSE NEIGHBOUR: 'it returns false'. Refute it at one input. -/
def walRoomWrong : ChangeSpec := { name := "walRoom", fn := fun _ => fun
  | [d1, d2, d3] => { results := [.lit (.bool false)], args := [d1, d2, d3] }
  | _ => none }
def WalRoomWrongFalsely : Prop := walRoomRow.holds Try.pinned (OpenSpec.ofChange walRoomWrong)

/-- 'careenlaw05.WalRises': WHATEVER THE INPUT: true; the input reads as it did. -/
def walRisesSpec : ChangeSpec := { name := "walRises", fn := fun _ => fun
  | [d1, d2] => { results := [.lit (.bool true)], args := [d1, d2] }
  | _ => none }
def walRisesRow : OpenClaim := { program := "ytbnglmeljbiglaa", sum := "cc2fa68307c4d0776b01829256463addb3e32e6db67dfc4a4e87e61f1b8b1870", func := "careen/careenlaw05.WalRises", spec := "walRises", inPlace := ["internal/abi.NoEscape"], apart := false }
def WalRisesSaid : Prop := walRisesRow.holds Try.pinned (OpenSpec.ofChange walRisesSpec)

/-- ITS FALSE NEIGHBOUR: 'it returns false'. Refute it at one input. -/
def walRisesWrong : ChangeSpec := { name := "walRises", fn := fun _ => fun
  | [d1, d2] => { results := [.lit (.bool false)], args := [d1, d2] }
  | _ => none }
def WalRisesWrongFalsely : Prop := walRisesRow.holds Try.pinned (OpenSpec.ofChange walRisesWrong)

/-- 'careenlaw05.WalAgain': WHATEVER THE INPUT: true; the input reads as it did. -/
def walAgainSpec : ChangeSpec := { name := "walAgain", fn := fun _ => fun
  | [d1, d2, d3] => { results := [.lit (.bool true)], args := [d1, d2, d3] }
  | _ => none }
def walAgainRow : OpenClaim := { program := "ytbnglmeljbiglaa", sum := "cc2fa68307c4d0776b01829256463addb3e32e6db67dfc4a4e87e61f1b8b1870", func := "careen/careenlaw05.WalAgain", spec := "walAgain", inPlace := ["internal/abi.NoEscape"], apart := false }
def WalAgainSaid : Prop := walAgainRow.holds Try.pinned (OpenSpec.ofChange walAgainSpec)

/-- ITS FALSE NEIGHBOUR: 'it returns false'. Refute it at one input. -/
def walAgainWrong : ChangeSpec := { name := "walAgain", fn := fun _ => fun
  | [d1, d2, d3] => { results := [.lit (.bool false)], args := [d1, d2, d3] }
  | _ => none }
def WalAgainWrongFalsely : Prop := walAgainRow.holds Try.pinned (OpenSpec.ofChange walAgainWrong)

/-- 'careenlaw05.WalNil': WHATEVER THE INPUT: true; the input reads as it did. -/
def walNilSpec : ChangeSpec := { name := "walNil", fn := fun _ => fun
  | [d1, d2] => { results := [.lit (.bool true)], args := [d1, d2] }
  | _ => none }
def walNilRow : OpenClaim := { program := "ytbnglmeljbiglaa", sum := "cc2fa68307c4d0776b01829256463addb3e32e6db67dfc4a4e87e61f1b8b1870", func := "careen/careenlaw05.WalNil", spec := "walNil", inPlace := ["internal/abi.NoEscape"], apart := false }
def WalNilSaid : Prop := walNilRow.holds Try.pinned (OpenSpec.ofChange walNilSpec)

/-- ITS FALSE NEIGHBOUR: 'it returns false'. Refute it at one input. -/
def walNilWrong : ChangeSpec := { name := "walNil", fn := fun _ => fun
  | [d1, d2] => { results := [.lit (.bool false)], args := [d1, d2] }
  | _ => none }
def WalNilWrongFalsely : Prop := walNilRow.holds Try.pinned (OpenSpec.ofChange walNilWrong)

/-- 'careenlaw15.TapeGrows': WHATEVER THE INPUT: true; the input reads as it did. -/
def tapeGrowsSpec : ChangeSpec := { name := "tapeGrows", fn := fun _ => fun
  | [d1, d2] => { results := [.lit (.bool true)], args := [d1, d2] }
  | _ => none }
def tapeGrowsRow : OpenClaim := { program := "ytbnglmeljbiglaa", sum := "cc2fa68307c4d0776b01829256463addb3e32e6db67dfc4a4e87e61f1b8b1870", func := "careen/careenlaw15.TapeGrows", spec := "tapeGrows", inPlace := ["internal/abi.NoEscape"], apart := false }
def TapeGrowsSaid : Prop := tapeGrowsRow.holds Try.pinned (OpenSpec.ofChange tapeGrowsSpec)

/-- ITS FALSE NEIGHBOUR: 'it returns false'. Refute it at one input. -/
def tapeGrowsWrong : ChangeSpec := { name := "tapeGrows", fn := fun _ => fun
  | [d1, d2] => { results := [.lit (.bool false)], args := [d1, d2] }
  | _ => none }
def TapeGrowsWrongFalsely : Prop := tapeGrowsRow.holds Try.pinned (OpenSpec.ofChange tapeGrowsWrong)

/-- 'careenlaw15.TapeNil': WHATEVER THE INPUT: true; the input reads as it did. -/
def tapeNilSpec : ChangeSpec := { name := "tapeNil", fn := fun _ => fun
  | [d] => { results := [.lit (.bool true)], args := [d] }
  | _ => none }
def tapeNilRow : OpenClaim := { program := "ytbnglmeljbiglaa", sum := "cc2fa68307c4d0776b01829256463addb3e32e6db67dfc4a4e87e61f1b8b1870", func := "careen/careenlaw15.TapeNil", spec := "tapeNil", inPlace := ["internal/abi.NoEscape"], apart := false }
def TapeNilSaid : Prop := tapeNilRow.holds Try.pinned (OpenSpec.ofChange tapeNilSpec)

/-- ITS FALSE NEIGHBOUR: 'it returns false'. Refute it at one input. -/
def tapeNilWrong : ChangeSpec := { name := "tapeNil", fn := fun _ => fun
  | [d] => { results := [.lit (.bool false)], args := [d] }
  | _ => none }
def TapeNilWrongFalsely : Prop := tapeNilRow.holds Try.pinned (OpenSpec.ofChange tapeNilWrong)

/- THE SECOND FORM. 'bulk': how many values and letters a reading holds, each counted each time it is reached (what is shared counts as often as it is met; a slice's spare places count too). A statement '..UptoSaid' is the law's where the arguments, and the package variables that the reading takes, are together of bulk at most 1048576: NARROWER than '..Said'. Prove '..Said' where nothing that the law and all that it calls make is longer than what came in: it says more and counts as full. Else prove '..UptoSaid'. A law counts once. -/
mutual
def uptoBulk {H : Type} : DataW H → Nat
  | .lit (.string bytes) => bytes.length + 1
  | .lit _ => 1
  | .nil => 1
  | .ptr d => uptoBulk d + 1
  | .slice elems spare => uptoBulkAll elems + uptoBulkAll spare + 1
  | .agg parts => uptoBulkAll parts + 1
  | .iface _ d => uptoBulk d + 1
  | .map entries => uptoBulkEntries entries + 1
  | .held _ => 1
def uptoBulkAll {H : Type} : List (DataW H) → Nat
  | [] => 0
  | d :: r => uptoBulk d + uptoBulkAll r
def uptoBulkEntries {H : Type} : List (Lit × DataW H) → Nat
  | [] => 0
  | x :: r => uptoBulkEntry x + uptoBulkEntries r
def uptoBulkEntry {H : Type} : Lit × DataW H → Nat
  | (.string bytes, d) => bytes.length + uptoBulk d + 1
  | (_, d) => uptoBulk d + 1
 end
def uptoSmall : (H : Type) → List (DataW H) → Bool := fun _ ds => decide (uptoBulkAll ds ≤ 1048576)
def OpenSpec.upto (s : _root_.Go.ChangeSpec) : _root_.Go.OpenSpec := { _root_.Go.OpenSpec.ofChange s with cond := some uptoSmall }

/-- 'careenlaw05.WalKeeps', WHERE WHAT IT READS IS OF BULK AT MOST 1048576: true; the input reads as it did. -/
def walKeepsUptoRow : OpenClaim := { program := "ytbnglmeljbiglaa", sum := "cc2fa68307c4d0776b01829256463addb3e32e6db67dfc4a4e87e61f1b8b1870", func := "careen/careenlaw05.WalKeeps", spec := "walKeeps", inPlace := ["internal/abi.NoEscape"], apart := false, narrowed := true }
def WalKeepsUptoSaid : Prop := walKeepsUptoRow.holds Try.pinned (OpenSpec.upto walKeepsSpec)

/-- 'careenlaw05.WalSafe', WHERE WHAT IT READS IS OF BULK AT MOST 1048576: true; the input reads as it did. -/
def walSafeUptoRow : OpenClaim := { program := "ytbnglmeljbiglaa", sum := "cc2fa68307c4d0776b01829256463addb3e32e6db67dfc4a4e87e61f1b8b1870", func := "careen/careenlaw05.WalSafe", spec := "walSafe", inPlace := ["internal/abi.NoEscape"], apart := false, narrowed := true }
def WalSafeUptoSaid : Prop := walSafeUptoRow.holds Try.pinned (OpenSpec.upto walSafeSpec)

/-- 'careenlaw05.WalRoom', WHERE WHAT IT READS IS OF BULK AT MOST 1048576: true; the input reads as it did. -/
def walRoomUptoRow : OpenClaim := { program := "ytbnglmeljbiglaa", sum := "cc2fa68307c4d0776b01829256463addb3e32e6db67dfc4a4e87e61f1b8b1870", func := "careen/careenlaw05.WalRoom", spec := "walRoom", inPlace := ["internal/abi.NoEscape"], apart := false, narrowed := true }
def WalRoomUptoSaid : Prop := walRoomUptoRow.holds Try.pinned (OpenSpec.upto walRoomSpec)

/-- 'careenlaw05.WalRises', WHERE WHAT IT READS IS OF BULK AT MOST 1048576: true; the input reads as it did. -/
def walRisesUptoRow : OpenClaim := { program := "ytbnglmeljbiglaa", sum := "cc2fa68307c4d0776b01829256463addb3e32e6db67dfc4a4e87e61f1b8b1870", func := "careen/careenlaw05.WalRises", spec := "walRises", inPlace := ["internal/abi.NoEscape"], apart := false, narrowed := true }
def WalRisesUptoSaid : Prop := walRisesUptoRow.holds Try.pinned (OpenSpec.upto walRisesSpec)

/-- 'careenlaw05.WalAgain', WHERE WHAT IT READS IS OF BULK AT MOST 1048576: true; the input reads as it did. -/
def walAgainUptoRow : OpenClaim := { program := "ytbnglmeljbiglaa", sum := "cc2fa68307c4d0776b01829256463addb3e32e6db67dfc4a4e87e61f1b8b1870", func := "careen/careenlaw05.WalAgain", spec := "walAgain", inPlace := ["internal/abi.NoEscape"], apart := false, narrowed := true }
def WalAgainUptoSaid : Prop := walAgainUptoRow.holds Try.pinned (OpenSpec.upto walAgainSpec)

/-- 'careenlaw05.WalNil', WHERE WHAT IT READS IS OF BULK AT MOST 1048576: true; the input reads as it did. -/
def walNilUptoRow : OpenClaim := { program := "ytbnglmeljbiglaa", sum := "cc2fa68307c4d0776b01829256463addb3e32e6db67dfc4a4e87e61f1b8b1870", func := "careen/careenlaw05.WalNil", spec := "walNil", inPlace := ["internal/abi.NoEscape"], apart := false, narrowed := true }
def WalNilUptoSaid : Prop := walNilUptoRow.holds Try.pinned (OpenSpec.upto walNilSpec)

/-- 'careenlaw15.TapeGrows', WHERE WHAT IT READS IS OF BULK AT MOST 1048576: true; the input reads as it did. -/
def tapeGrowsUptoRow : OpenClaim := { program := "ytbnglmeljbiglaa", sum := "cc2fa68307c4d0776b01829256463addb3e32e6db67dfc4a4e87e61f1b8b1870", func := "careen/careenlaw15.TapeGrows", spec := "tapeGrows", inPlace := ["internal/abi.NoEscape"], apart := false, narrowed := true }
def TapeGrowsUptoSaid : Prop := tapeGrowsUptoRow.holds Try.pinned (OpenSpec.upto tapeGrowsSpec)

/-- 'careenlaw15.TapeNil', WHERE WHAT IT READS IS OF BULK AT MOST 1048576: true; the input reads as it did. -/
def tapeNilUptoRow : OpenClaim := { program := "ytbnglmeljbiglaa", sum := "cc2fa68307c4d0776b01829256463addb3e32e6db67dfc4a4e87e61f1b8b1870", func := "careen/careenlaw15.TapeNil", spec := "tapeNil", inPlace := ["internal/abi.NoEscape"], apart := false, narrowed := true }
def TapeNilUptoSaid : Prop := tapeNilUptoRow.holds Try.pinned (OpenSpec.upto tapeNilSpec)

end Rows
end Go.Proofs.Ytbnglmeljbiglaa
