import Derived.Test.YtcfknakmamcinaaQEZ0
import Derived.Test.YtcfknakmamcinaaQEZ1
import Derived.Test.YtcfknakmamcinaaQEZ2
import Derived.Test.YtcfknakmamcinaaQEZ5
import Derived.Test.YtcfknakmamcinaaQEZ6
import Derived.Test.YtcfknakmamcinaaQEZ7
import Derived.Test.YtcfknakmamcinaaQEZ8
import Derived.Test.YtcfknakmamcinaaQEZ9
import Derived.Test.YtcfknakmamcinaaQEZ10
namespace Go.Proofs.Ytcfknakmamcinaa.Wr
open Go.Proofs.Ytcfknakmamcinaa.Rp Go.Proofs.Ytcfknakmamcinaa.X4
open Go Go.RowKit Go.ChangeMaps Go.Proofs.Ytcfknakmamcinaa.Arr Go.Proofs.Ytcfknakmamcinaa.Ow Go.Proofs.YtcfknakmamcinaaW.PrintWords Go.Proofs.YtcfknakmamcinaaW.PrintLast Go.Proofs.YtcfknakmamcinaaW.PrintMore
set_option linter.unusedVariables false
set_option linter.unusedSimpArgs false
theorem rec_calls (g : Nat) (l : List UInt8) (b : Nat) (r : S25) (A9 : Option Addr) (c9 : Nat) (A10 : Option Addr) (c10 : Nat) (S : Nat → Prop) (w : World) (hS : Top S w) (h : WK w S g l) (hb : RB w b r A9 c9 A10 c10) (hSb : ¬ S b) (hl : l.length ≤ 800000) (hz : r.f8.size ≤ 1000000) (h9 : ∀ w', FS S w w' → Kd.C k66 w' A9 r.f9.length r.f9) (h10 : ∀ w', FS S w w' → Kd.C k68 w' A10 r.f10.length r.f10) : Calls Try.prog 25 #[.pointer (some ⟨g, 0, none⟩), .pointer (some ⟨b, 0, none⟩)] w fun x w' => AfterR S g w l r A9 c9 A10 c10 x w' := by
  by_cases h0 : 0 ≤ r.f0 ∧ r.f0 ≤ 6
  · rcases (show r.f0 = 0 ∨ r.f0 = 1 ∨ r.f0 = 2 ∨ r.f0 = 3 ∨ r.f0 = 4 ∨ r.f0 = 5 ∨ r.f0 = 6 by omega) with e | e | e | e | e | e | e
    · exact rec_zero g l b r A9 c9 A10 c10 S w hS h hb hSb hl hz e
    · exact rec_one g l b r A9 c9 A10 c10 S w hS h hb hSb hl hz e
    · exact rec_two g l b r A9 c9 A10 c10 S w hS h hb hSb hl hz e
    · exact rec_three g l b r A9 c9 A10 c10 S w hS h hb hSb hl hz e
    · exact rec_four g l b r A9 c9 A10 c10 S w hS h hb hSb hl hz e
    · exact rec_five g l b r A9 c9 A10 c10 S w hS h hb hSb hl hz e
    · exact rec_six g l b r A9 c9 A10 c10 S w hS h hb hSb hl hz h9 h10 e
  · exact rec_none g l b r A9 c9 A10 c10 S w hS h hb hSb hl hz h0
end Go.Proofs.Ytcfknakmamcinaa.Wr
