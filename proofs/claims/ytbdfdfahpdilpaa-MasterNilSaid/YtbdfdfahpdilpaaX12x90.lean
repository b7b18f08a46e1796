import Derived.Test.YtbdfdfahpdilpaaM4
/-! Layer 12: MasterNil. -/
namespace Go.Proofs.Ytbdfdfahpdilpaa.X12
open Go Go.RowKit Go.ChangeMaps Go.Proofs.Ytbdfdfahpdilpaa.Arr Go.Proofs.Ytbdfdfahpdilpaa.Mp Go.Proofs.Ytbdfdfahpdilpaa.Ow Go.Proofs.Ytbdfdfahpdilpaa.Dk Go.Proofs.Ytbdfdfahpdilpaa.Slab Go.Proofs.YtbdfdfahpdilpaaW.PrintWords Go.Proofs.YtbdfdfahpdilpaaW.PrintLast Go.Proofs.YtbdfdfahpdilpaaW.PrintMore
set_option linter.unusedVariables false
set_option linter.unusedSimpArgs false
def careenlaw12_MasterNil.f (a0 a1_0 a1_1 : Int) : Option Bool := some true
theorem careenlaw12_MasterNil.calls (a0 a1_0 a1_1 : Int) (r : Bool) (w : World) (h : careenlaw12_MasterNil.f a0 a1_0 a1_1 = some r) :
    Calls Try.prog 9 #[.int .i64 a0, .agg #[.int .i64 a1_0, .int .i64 a1_1]] w fun e w' => e = .returned (.bool r) ∧ Below w.heap.size w w' := by
  obtain rfl := Option.some.inj h
  exact mnil_walk a0 a1_0 a1_1 w
end Go.Proofs.Ytbdfdfahpdilpaa.X12
