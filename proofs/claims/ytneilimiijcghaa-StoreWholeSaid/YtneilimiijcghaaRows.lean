/-
  No cell of these rows narrows 'for every input' (looked for: loops, veiled, ifaces, maps, wideKeys, modest, calm, conditions, laid).
  DERIVED. THE GIVEN ROWS OF THIS SEAT. 4 by the template 'for every input the law returns true; each argument reads behind the call as it read before'; 0 by the template 'total and deterministic' (their statements: YtneilimiijcghaaTotals.lean).
  GIVEN WITH THE SEED: the statements are not yours to turn. If you find one false, say at which input.
  Laid BY PROGRAM, IN A SANDBOX (cutbox-rows.mjs): the forced cells as the released guide's own fill.sh prints them over the translation c38f22ac18f3f1ab… (all of the seat's roots in one cut). By AI agents, Wed Nov 11 2026. No macro, syntax, notation, axiom, sorry.
-/
import Derived.Test.YtneilimiijcghaaChecked
import GoSem.Claim
import GoSem.ClaimJoined
import GoSem.ClaimMapViews
import Derived.JoinedTies
import Derived.KernelRfl
namespace Go.Proofs.Ytneilimiijcghaa
/- THE CELL 'sum', in the pinned program and in every row, IS THE sha256 OF THE DUMP (.gsa) THAT YtneilimiijcghaaProg.lean LOADS. Nothing in Lean hashes anything: it is a label: what it is worth is what the hold of that sum in a sandbox is worth. -/
noncomputable def Try.pinned : Pinned := { name := "ytneilimiijcghaa", sum := "c38f22ac18f3f1abcd3c6280300d8c7ccd3293031e1947ffb9cf74861f547ff5", checked := Try.checked }
namespace Rows
def none {H : Type} : Left H := { results := [], args := [] }

/-- 'careenlaw07.StoreWhole': WHATEVER THE INPUT: true; the input reads as it did. -/
def storeWholeSpec : ChangeSpec := { name := "storeWhole", fn := fun _ => fun
  | [d1, d2, d3] => { results := [.lit (.bool true)], args := [d1, d2, d3] }
  | _ => none }
def storeWholeRow : OpenClaim := { program := "ytneilimiijcghaa", sum := "c38f22ac18f3f1abcd3c6280300d8c7ccd3293031e1947ffb9cf74861f547ff5", func := "careen/careenlaw07.StoreWhole", spec := "storeWhole", apart := false }
def StoreWholeSaid : Prop := storeWholeRow.holds Try.pinned (OpenSpec.ofChange storeWholeSpec)

/-- ITS FALSE NEIGHBOUR: 'it returns false'. Refute it at one input. -/
def storeWholeWrong : ChangeSpec := { name := "storeWhole", fn := fun _ => fun
  | [d1, d2, d3] => { results := [.lit (.bool false)], args := [d1, d2, d3] }
  | _ => none }
def StoreWholeWrongFalsely : Prop := storeWholeRow.holds Try.pinned (OpenSpec.ofChange storeWholeWrong)

/-- 'careenlaw07.StoreLast': WHATEVER THE INPUT: true; the input reads as it did. -/
def storeLastSpec : ChangeSpec := { name := "storeLast", fn := fun _ => fun
  | [d1, d2, d3, d4] => { results := [.lit (.bool true)], args := [d1, d2, d3, d4] }
  | _ => none }
def storeLastRow : OpenClaim := { program := "ytneilimiijcghaa", sum := "c38f22ac18f3f1abcd3c6280300d8c7ccd3293031e1947ffb9cf74861f547ff5", func := "careen/careenlaw07.StoreLast", spec := "storeLast", apart := false }
def StoreLastSaid : Prop := storeLastRow.holds Try.pinned (OpenSpec.ofChange storeLastSpec)

/-- ITS FALSE NEIGHBOUR: 'it returns false'. Refute it at one input. -/
def storeLastWrong : ChangeSpec := { name := "storeLast", fn := fun _ => fun
  | [d1, d2, d3, d4] => { results := [.lit (.bool false)], args := [d1, d2, d3, d4] }
  | _ => none }
def StoreLastWrongFalsely : Prop := storeLastRow.holds Try.pinned (OpenSpec.ofChange storeLastWrong)

/-- 'careenlaw07.StoreOpens': WHATEVER THE INPUT: true; the input reads as it did. -/
def storeOpensSpec : ChangeSpec := { name := "storeOpens", fn := fun _ => fun
  | [d1, d2] => { results := [.lit (.bool true)], args := [d1, d2] }
  | _ => none }
def storeOpensRow : OpenClaim := { program := "ytneilimiijcghaa", sum := "c38f22ac18f3f1abcd3c6280300d8c7ccd3293031e1947ffb9cf74861f547ff5", func := "careen/careenlaw07.StoreOpens", spec := "storeOpens", apart := false }
def StoreOpensSaid : Prop := storeOpensRow.holds Try.pinned (OpenSpec.ofChange storeOpensSpec)

/-- ITS FALSE NEIGHBOUR: 'it returns false'. Refute it at one input. -/
def storeOpensWrong : ChangeSpec := { name := "storeOpens", fn := fun _ => fun
  | [d1, d2] => { results := [.lit (.bool false)], args := [d1, d2] }
  | _ => none }
def StoreOpensWrongFalsely : Prop := storeOpensRow.holds Try.pinned (OpenSpec.ofChange storeOpensWrong)

/-- 'careenlaw07.StoreNil': WHATEVER THE INPUT: true; the input reads as it did. -/
def storeNilSpec : ChangeSpec := { name := "storeNil", fn := fun _ => fun
  | [d1, d2] => { results := [.lit (.bool true)], args := [d1, d2] }
  | _ => none }
def storeNilRow : OpenClaim := { program := "ytneilimiijcghaa", sum := "c38f22ac18f3f1abcd3c6280300d8c7ccd3293031e1947ffb9cf74861f547ff5", func := "careen/careenlaw07.StoreNil", spec := "storeNil", unfollowed := true, recurses := true, apart := false }
def StoreNilSaid : Prop := storeNilRow.holds Try.pinned (OpenSpec.ofChange storeNilSpec)

/-- ITS FALSE NEIGHBOUR: 'it returns false'. Refute it at one input. -/
def storeNilWrong : ChangeSpec := { name := "storeNil", fn := fun _ => fun
  | [d1, d2] => { results := [.lit (.bool false)], args := [d1, d2] }
  | _ => none }
def StoreNilWrongFalsely : Prop := storeNilRow.holds Try.pinned (OpenSpec.ofChange storeNilWrong)

/- THE SECOND FORM. 'bulk': how many values and letters a reading holds, each counted each time it is reached (what is shared counts as often as it is met; a slice's spare places count too). A statement '..UptoSaid' is the law's where the arguments, and the package variables that the reading takes, are together of bulk at most 1048576: NARROWER than '..Said'. Prove '..Said' where nothing that the law and all that it calls make is longer than what came in: it says more and counts as full. Else prove '..UptoSaid'. A law counts once. -/
mutual
def uptoBulk {H : Type} : DataW H → Nat
  | .lit (.string bytes) => bytes.length + 1
  | .lit _ => 1
  | .nil => 1
  | .ptr d => uptoBulk d + 1
  | .slice elems spare => uptoBulkAll elems + uptoBulkAll spare + 1
  | .agg parts => uptoBulkAll parts + 1
  | .iface _ d => uptoBulk d + 1
  | .map entries => uptoBulkEntries entries + 1
  | .held _ => 1
def uptoBulkAll {H : Type} : List (DataW H) → Nat
  | [] => 0
  | d :: r => uptoBulk d + uptoBulkAll r
def uptoBulkEntries {H : Type} : List (Lit × DataW H) → Nat
  | [] => 0
  | x :: r => uptoBulkEntry x + uptoBulkEntries r
def uptoBulkEntry {H : Type} : Lit × DataW H → Nat
  | (.string bytes, d) => bytes.length + uptoBulk d + 1
  | (_, d) => uptoBulk d + 1
 end
def uptoSmall : (H : Type) → List (DataW H) → Bool := fun _ ds => decide (uptoBulkAll ds ≤ 1048576)
def OpenSpec.upto (s : _root_.Go.ChangeSpec) : _root_.Go.OpenSpec := { _root_.Go.OpenSpec.ofChange s with cond := some uptoSmall }

/-- 'careenlaw07.StoreWhole', WHERE WHAT IT READS IS OF BULK AT MOST 1048576: true; the input reads as it did. -/
def storeWholeUptoRow : OpenClaim := { program := "ytneilimiijcghaa", sum := "c38f22ac18f3f1abcd3c6280300d8c7ccd3293031e1947ffb9cf74861f547ff5", func := "careen/careenlaw07.StoreWhole", spec := "storeWhole", apart := false, narrowed := true }
def StoreWholeUptoSaid : Prop := storeWholeUptoRow.holds Try.pinned (OpenSpec.upto storeWholeSpec)

/-- 'careenlaw07.StoreLast', WHERE WHAT IT READS IS OF BULK AT MOST 1048576: true; the input reads as it did. -/
def storeLastUptoRow : OpenClaim := { program := "ytneilimiijcghaa", sum := "c38f22ac18f3f1abcd3c6280300d8c7ccd3293031e1947ffb9cf74861f547ff5", func := "careen/careenlaw07.StoreLast", spec := "storeLast", apart := false, narrowed := true }
def StoreLastUptoSaid : Prop := storeLastUptoRow.holds Try.pinned (OpenSpec.upto storeLastSpec)

/-- 'careenlaw07.StoreOpens', WHERE WHAT IT READS IS OF BULK AT MOST 1048576: true; the input reads as it did. -/
def storeOpensUptoRow : OpenClaim := { program := "ytneilimiijcghaa", sum := "c38f22ac18f3f1abcd3c6280300d8c7ccd3293031e1947ffb9cf74861f547ff5", func := "careen/careenlaw07.StoreOpens", spec := "storeOpens", apart := false, narrowed := true }
def StoreOpensUptoSaid : Prop := storeOpensUptoRow.holds Try.pinned (OpenSpec.upto storeOpensSpec)

/-- 'careenlaw07.StoreNil', WHERE WHAT IT READS IS OF BULK AT MOST 1048576: true; the input reads as it did. -/
def storeNilUptoRow : OpenClaim := { program := "ytneilimiijcghaa", sum := "c38f22ac18f3f1abcd3c6280300d8c7ccd3293031e1947ffb9cf74861f547ff5", func := "careen/careenlaw07.StoreNil", spec := "storeNil", unfollowed := true, recurses := true, apart := false, narrowed := true }
def StoreNilUptoSaid : Prop := storeNilUptoRow.holds Try.pinned (OpenSpec.upto storeNilSpec)

end Rows
end Go.Proofs.Ytneilimiijcghaa
