import Derived.Test.YtcfknakmamcinaaQDZ0
import Derived.Test.YtcfknakmamcinaaQDZ1
import Derived.Test.YtcfknakmamcinaaQDZ2
import Derived.Test.YtcfknakmamcinaaQDZ5
import Derived.Test.YtcfknakmamcinaaQDZ6
import Derived.Test.YtcfknakmamcinaaQDZ7
import Derived.Test.YtcfknakmamcinaaQDZ8
import Derived.Test.YtcfknakmamcinaaQDZ9
import Derived.Test.YtcfknakmamcinaaQDZ10
namespace Go.Proofs.Ytcfknakmamcinaa.Wr
open Go.Proofs.Ytcfknakmamcinaa.Rp Go.Proofs.Ytcfknakmamcinaa.X4
open Go Go.RowKit Go.ChangeMaps Go.Proofs.Ytcfknakmamcinaa.Arr Go.Proofs.Ytcfknakmamcinaa.Ow Go.Proofs.YtcfknakmamcinaaW.PrintWords Go.Proofs.YtcfknakmamcinaaW.PrintLast Go.Proofs.YtcfknakmamcinaaW.PrintMore
set_option linter.unusedVariables false
set_option linter.unusedSimpArgs false
theorem rec_calls (g : Nat) (l : List UInt8) (b : Nat) (r : S25) (A9 : Option Addr) (c9 : Nat) (A10 : Option Addr) (c10 : Nat) (S : Nat → Prop) (w : World) (hS : Top S w) (h : WK w S g l) (hb : RB w b r A9 c9 A10 c10) (hSb : ¬ S b) (hl : l.length ≤ 800000) (hz : r.f8.size ≤ 1000000) (h9 : ∀ w', FS S w w' → Kd.C k66 w' A9 r.f9.length r.f9) (h10 : ∀ w', FS S w w' → Kd.C k68 w' A10 r.f10.length r.f10) : Calls Try.prog 25 #[.pointer (some ⟨g, 0, none⟩), .pointer (some ⟨b, 0, none⟩)] w fun x w' => AfterR S g w l r A9 c9 A10 c10 x w' := by
  by_cases h0 : 0 ≤ r.f0 ∧ r.f0 ≤ 6
  · rcases (show r.f0 = 0 ∨ r.f0 = 1 ∨ r.f0 = 2 ∨ r.f0 = 3 ∨ r.f0 = 4 ∨ r.f0 = 5 ∨ r.f0 = 6 by omega) with e | e | e | e | e | e | e
    · exact rec_zero g l b r A9 c9 A10 c10 S w hS h hb hSb hl hz e
    · exact rec_one g l b r A9 c9 A10 c10 S w hS h hb hSb hl hz e
    · exact rec_two g l b r A9 c9 A10 c10 S w hS h hb hSb hl hz e
    · exact rec_three g l b r A9 c9 A10 c10 S w hS h hb hSb hl hz e
    · exact rec_four g l b r A9 c9 A10 c10 S w hS h hb hSb hl hz e
    · exact rec_five g l b r A9 c9 A10 c10 S w hS h hb hSb hl hz e
    · exact rec_six g l b r A9 c9 A10 c10 S w hS h hb hSb hl hz h9 h10 e
  · exact rec_none g l b r A9 c9 A10 c10 S w hS h hb hSb hl hz h0
end Go.Proofs.Ytcfknakmamcinaa.Wr
namespace Go.Proofs.Ytcfknakmamcinaa.Wr
open Go.Proofs.Ytcfknakmamcinaa.Rp Go.Proofs.Ytcfknakmamcinaa.X4
open Go Go.RowKit Go.ChangeMaps Go.Proofs.Ytcfknakmamcinaa.Arr Go.Proofs.Ytcfknakmamcinaa.Ow Go.Proofs.YtcfknakmamcinaaW.PrintWords Go.Proofs.YtcfknakmamcinaaW.PrintLast Go.Proofs.YtcfknakmamcinaaW.PrintMore
set_option linter.unusedVariables false
set_option linter.unusedSimpArgs false
theorem rsame_calls (a b : S25) (A9 : Option Addr) (c9 : Nat) (A10 : Option Addr) (c10 : Nat) (B9 : Option Addr) (d9 : Nat) (B10 : Option Addr) (d10 : Nat) (w : World)
    (h9 : Kd.C k66 w A9 a.f9.length a.f9) (l9 : a.f9.length ≤ c9) (h10 : Kd.C k68 w A10 a.f10.length a.f10) (l10 : a.f10.length ≤ c10) (g9 : Kd.C k66 w B9 b.f9.length b.f9) (m9 : b.f9.length ≤ d9) (g10 : Kd.C k68 w B10 b.f10.length b.f10) (m10 : b.f10.length ≤ d10) (s9 : a.f9.length ≤ 1000000) (s10 : a.f10.length ≤ 1000000) :
    Calls Try.prog 17 #[aggR a A9 c9 A10 c10, aggR b B9 d9 B10 d10] w fun e w' => e = .returned (.bool (decide (a = b))) ∧ Below w.heap.size w w' :=
  Sa.rsame_calls a b A9 c9 A10 c10 B9 d9 B10 d10 w h9 h10 g9 g10 s9 s10
/-- The walk's worlds: two copies of a record. -/
structure MY (w0 w : World) (r : S25) (A9 : Option Addr) (c9 : Nat) (A10 : Option Addr) (c10 : Nat) : Prop where
  below : Below w0.heap.size w0 w
  b0 : RB w w0.heap.size r A9 c9 A10 c10
  b1 : RB w (w0.heap.size + 1) r A9 c9 A10 c10
  r9 : Kd.C k66 w A9 r.f9.length r.f9
  l9 : r.f9.length ≤ c9
  r10 : Kd.C k68 w A10 r.f10.length r.f10
  l10 : r.f10.length ≤ c10
  s9 : r.f9.length ≤ 1000000
  s10 : r.f10.length ≤ 1000000
section
variable {w0 w w' : World} {r : S25} {A9 : Option Addr} {c9 : Nat} {A10 : Option Addr} {c10 : Nat}
theorem MY.next (h : MY w0 w r A9 c9 A10 c10) (hb : Below w.heap.size w w') : MY w0 w' r A9 c9 A10 c10 :=
  ⟨h.below.trans (hb.mono h.below.size), blk_below h.b0 hb, blk_below h.b1 hb, Kd.C_below h.r9 hb, h.l9, Kd.C_below h.r10 hb, h.l10, h.s9, h.s10⟩
theorem MY.alloc (h : MY w0 w r A9 c9 A10 c10) (ob : Obj) (hb : Below (w.alloc ob).heap.size (w.alloc ob) w') : MY w0 w' r A9 c9 A10 c10 := (h.next ((Below.refl _ _).alloc (Nat.le_refl _) ob)).next hb
theorem MY.drew (h : MY w0 w r A9 c9 A10 c10) : MY w0 w.drew r A9 c9 A10 c10 := h.next ((Below.refl _ _).drew)
theorem MY.same (h : MY w0 w r A9 c9 A10 c10) (b : S25) (B9 : Option Addr) (d9 : Nat) (B10 : Option Addr) (d10 : Nat) (g9 : Kd.C k66 w B9 b.f9.length b.f9) (m9 : b.f9.length ≤ d9) (g10 : Kd.C k68 w B10 b.f10.length b.f10) (m10 : b.f10.length ≤ d10) :
    Calls Try.prog 17 #[aggR r A9 c9 A10 c10, aggR b B9 d9 B10 d10] w fun e w' => e = .returned (.bool (decide (r = b))) ∧ Below w.heap.size w w' := rsame_calls r b A9 c9 A10 c10 B9 d9 B10 d10 w h.r9 h.l9 h.r10 h.l10 g9 m9 g10 m10 h.s9 h.s10
end
end Go.Proofs.Ytcfknakmamcinaa.Wr
