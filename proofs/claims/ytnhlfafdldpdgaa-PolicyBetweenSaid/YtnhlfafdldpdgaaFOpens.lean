import Derived.Test.YtnhlfafdldpdgaaOpens
import Derived.Test.YtnhlfafdldpdgaaCellS
/-! A float argument, opened. -/
namespace Go.Proofs.Ytnhlfafdldpdgaa.Opens
open Go Go.RowKit Go.ChangeShapes Go.WideShapes Go.Deep Go.Proofs.YtnhlfafdldpdgaaW.PrintWords
variable {P : Program}
theorem opens_float {t : TypeId} (ht : P.underlying t = some (.float .f64)) : Opens P t Cell.kf (fun _ => True) := by
  intro H enc w fuel cs x h _
  have g : ∃ b, cs = [.float .f64 b] ∧ (Lit.float .f64 b).wf = true := by
    cases fuel with
    | zero => simp [DataW.trod] at h
    | succ n =>
      unfold DataW.trod at h
      rw [ht] at h
      split at h <;> simp_all
  obtain ⟨b, rfl, hw⟩ := g
  have hb : b < 18446744073709551616 := by simpa [Lit.wf] using hw
  exact ⟨UInt64.ofNat b, by show [Value.float .f64 b] = [Value.float .f64 (UInt64.ofNat b).toNat]; rw [UInt64.toNat_ofNat', Nat.mod_eq_of_lt hb], trivial⟩
end Go.Proofs.Ytnhlfafdldpdgaa.Opens
