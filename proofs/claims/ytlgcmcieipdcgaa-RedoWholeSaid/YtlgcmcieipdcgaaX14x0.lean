-- Written by this session's xprint.py (the kit's print, with contracts proved by hand).
import Derived.Test.YtlgcmcieipdcgaaProg
import Derived.Below
import Derived.Deep.Draws
import Derived.Deep.AppendLies
import Derived.Maps.AppendAt
import Derived.OwnWalk
import Derived.Laws.BytesArg
import Derived.Laws.MakeOwn
import Derived.Laws.OwnMore
import Derived.Deep.OwnRows
import Derived.Tactics
import Derived.Lib.ConvBytes
import Derived.Laws.Slices
import Derived.WalkKit
import Derived.KernelRfl
import Derived.RowKit3
import Derived.Deep.LoopGhost
import Derived.Deep.QuietTactic
import Derived.BigQuiet
import Derived.WideLaws
import Derived.Deep.DeepCutAuto
import Derived.Deep.CutBlock
import Derived.Deep.RegionHeld3
import Derived.Laws.Rows
import Derived.Lib.AppendStr
import Derived.ArgAppend
import Derived.Laws.IdiomCopy
import Derived.OrdersHeld
import Derived.Laws.BitsLemmas
import Derived.RowKit
import Derived.Test.YtlgcmcieipdcgaaPage
import Derived.Test.YtlgcmcieipdcgaaRefPage
import Derived.StillTailTactics
import Derived.Test.YtlgcmcieipdcgaaArr
import Derived.Test.YtlgcmcieipdcgaaWWords
import Derived.Test.YtlgcmcieipdcgaaWLast
import Derived.Test.YtlgcmcieipdcgaaWTab
import Derived.Test.YtlgcmcieipdcgaaWFour
import Derived.Test.YtlgcmcieipdcgaaWQPut
import Derived.Test.YtlgcmcieipdcgaaWApart
import Derived.Test.YtlgcmcieipdcgaaWArr
import Derived.Test.YtlgcmcieipdcgaaWZeros
import Derived.Test.YtlgcmcieipdcgaaWFoot
import Derived.Test.YtlgcmcieipdcgaaWKept
import Derived.Test.YtlgcmcieipdcgaaWShare
import Derived.Test.YtlgcmcieipdcgaaWN
import Derived.Test.YtlgcmcieipdcgaaWFootNe
import Derived.Test.YtlgcmcieipdcgaaWAt
import Derived.Test.YtlgcmcieipdcgaaWEqStruct
import Derived.Test.YtlgcmcieipdcgaaWRepsOne
import Derived.Test.YtlgcmcieipdcgaaWInv
import Derived.Test.YtlgcmcieipdcgaaWInvWords
import Derived.Test.YtlgcmcieipdcgaaWGuard
import Derived.Test.YtlgcmcieipdcgaaWNEv
import Derived.Test.YtlgcmcieipdcgaaWMore
namespace Go.Proofs.Ytlgcmcieipdcgaa.X14
open Go.RowKit Go.Proofs.YtlgcmcieipdcgaaW.PrintWords Go.Proofs.YtlgcmcieipdcgaaW.PrintLast Go.Proofs.YtlgcmcieipdcgaaW.PrintMore
attribute [local go_sem] Page.fld_page_0 Page.fld_page_1 max2_int min2_int max_two min_two max_three min_three max_four min_four   -- for this text's walks alone
set_option linter.unusedVariables false
set_option linter.unusedSimpArgs false



def errW : Option Int → Value
  | none => .nilIface
  | some c => .iface 0 (.int .i64 c)
theorem errW_none : errW none = .nilIface := rfl
theorem errW_some (c : Int) : errW (some c) = .iface 0 (.int .i64 c) := rfl

theorem info5 : (Try.prog.info? 5).map (fun i => (i.zero, i.size, i.bytes)) = some (some (.int .u8 0), 1, 1) := by kernel_rfl
theorem info23 : (Try.prog.info? 23).map (fun i => (i.zero, i.size, i.bytes)) = some (some (.agg #[(.int .i64 0), (.string ⟨#[]⟩)]), 2, 24) := by kernel_rfl
theorem info58 : (Try.prog.info? 58).map (fun i => (i.zero, i.size, i.bytes)) = some (some (.agg #[(.int .i64 0), (.int .i64 0), (.int .i64 0), (.int .i64 0), (.int .i64 0), (.int .i64 0), (.int .i64 0), (.int .i64 0), (.string ⟨#[]⟩), (.string ⟨#[]⟩), (.slice none 0 0), (.slice none 0 0)]), 12, 144) := by kernel_rfl
-- the values' own types
/-! #### struct type 23 -/
structure S23 where
  f0 : Int
  f1 : ByteArray
def z23 : S23 := ⟨(0 : Int), (⟨#[]⟩ : ByteArray)⟩
def k23 : Kd S23 := Kd.iso (Kd.pair (Kd.int .i64) Kd.string) (fun x : S23 => (x.f0, x.f1))
theorem k23_open {w : World} {x : S23} {cs : List Value} (h : k23.K w x cs) : cs = [.int .i64 x.f0, .string x.f1] := by
  obtain ⟨_, _, rfl, rfl, rfl⟩ := h
  exact rfl
theorem k23_openM {w : World} {base : Nat} {ok : Nat → Prop} {x : S23} {cs : List Value} (h : k23.M w base ok x cs) : cs = [.int .i64 x.f0, .string x.f1] := by
  obtain ⟨_, _, rfl, rfl, rfl⟩ := h
  exact rfl
theorem k23_mk (w : World) (x : S23)  : k23.K w x [.int .i64 x.f0, .string x.f1] := ⟨[.int .i64 x.f0], [.string x.f1], rfl, rfl, rfl⟩
theorem k23_mkM (w : World) (base : Nat) (ok : Nat → Prop) (x : S23)  : k23.M w base ok x [.int .i64 x.f0, .string x.f1] := ⟨[.int .i64 x.f0], [.string x.f1], rfl, rfl, rfl⟩
theorem k23_mkF (W : World) (ok : Nat → Prop) (x : S23) : Kd.FK k23 W ok x [.int .i64 x.f0, .string x.f1] := fun W2 _ => k23_mk W2 x
def rd_T23 (xs : List S23) (i : Int) : S23 := xs.getD i.toNat z23
theorem at_T23 {w : World} {A : Option Addr} {n : Nat} {xs : List S23} (h : Kd.C k23 w A n xs) (i : Int) (h0 : 0 ≤ i) (h1 : i < n) : ∃ ad , A = some ad ∧ w.cell? (ad.add (i.toNat * 2)) = some (.int .i64 (rd_T23 xs i).f0) ∧ w.cell? ⟨(ad.add (i.toNat * 2)).block, (ad.add (i.toNat * 2)).off + 1, none⟩ = some (.string (rd_T23 xs i).f1) := by
  obtain ⟨ad, c, e, _, hK, hc0⟩ := Kd.C_get h z23 i h0 h1
  have hc : ∀ j u, c[j]? = some u → w.cell? (ad.add (i.toNat * 2 + j)) = some u := hc0
  obtain rfl := k23_open hK
  exact ⟨ad, e, hc 0 _ rfl, by rw [← add_field _ _ 1 (by omega)]; exact hc 1 _ rfl⟩

/-! #### struct type 100 -/
structure S100 where
  f0 : Int
  f1 : Int
  f2 : Int
def z100 : S100 := ⟨(0 : Int), (0 : Int), (0 : Int)⟩
def k100 : Kd S100 := Kd.iso (Kd.pair (Kd.int .i64) (Kd.pair (Kd.int .i64) (Kd.int .i64))) (fun x : S100 => (x.f0, x.f1, x.f2))
theorem k100_open {w : World} {x : S100} {cs : List Value} (h : k100.K w x cs) : cs = [.int .i64 x.f0, .int .i64 x.f1, .int .i64 x.f2] := by
  obtain ⟨_, _, rfl, rfl, ⟨_, _, rfl, rfl, rfl⟩⟩ := h
  exact rfl
theorem k100_openM {w : World} {base : Nat} {ok : Nat → Prop} {x : S100} {cs : List Value} (h : k100.M w base ok x cs) : cs = [.int .i64 x.f0, .int .i64 x.f1, .int .i64 x.f2] := by
  obtain ⟨_, _, rfl, rfl, ⟨_, _, rfl, rfl, rfl⟩⟩ := h
  exact rfl
theorem k100_mk (w : World) (x : S100)  : k100.K w x [.int .i64 x.f0, .int .i64 x.f1, .int .i64 x.f2] := ⟨[.int .i64 x.f0], [.int .i64 x.f1, .int .i64 x.f2], rfl, rfl, ⟨[.int .i64 x.f1], [.int .i64 x.f2], rfl, rfl, rfl⟩⟩
theorem k100_mkM (w : World) (base : Nat) (ok : Nat → Prop) (x : S100)  : k100.M w base ok x [.int .i64 x.f0, .int .i64 x.f1, .int .i64 x.f2] := ⟨[.int .i64 x.f0], [.int .i64 x.f1, .int .i64 x.f2], rfl, rfl, ⟨[.int .i64 x.f1], [.int .i64 x.f2], rfl, rfl, rfl⟩⟩
theorem k100_mkF (W : World) (ok : Nat → Prop) (x : S100) : Kd.FK k100 W ok x [.int .i64 x.f0, .int .i64 x.f1, .int .i64 x.f2] := fun W2 _ => k100_mk W2 x
def rd_T100 (xs : List S100) (i : Int) : S100 := xs.getD i.toNat z100
theorem at_T100 {w : World} {A : Option Addr} {n : Nat} {xs : List S100} (h : Kd.C k100 w A n xs) (i : Int) (h0 : 0 ≤ i) (h1 : i < n) : ∃ ad , A = some ad ∧ w.cell? (ad.add (i.toNat * 3)) = some (.int .i64 (rd_T100 xs i).f0) ∧ w.cell? ⟨(ad.add (i.toNat * 3)).block, (ad.add (i.toNat * 3)).off + 1, none⟩ = some (.int .i64 (rd_T100 xs i).f1) ∧ w.cell? ⟨(ad.add (i.toNat * 3)).block, (ad.add (i.toNat * 3)).off + 2, none⟩ = some (.int .i64 (rd_T100 xs i).f2) := by
  obtain ⟨ad, c, e, _, hK, hc0⟩ := Kd.C_get h z100 i h0 h1
  have hc : ∀ j u, c[j]? = some u → w.cell? (ad.add (i.toNat * 3 + j)) = some u := hc0
  obtain rfl := k100_open hK
  exact ⟨ad, e, hc 0 _ rfl, by rw [← add_field _ _ 1 (by omega)]; exact hc 1 _ rfl, by rw [← add_field _ _ 2 (by omega)]; exact hc 2 _ rfl⟩

/-! #### struct type 102 -/
structure S102 where
  f0 : Int
  f1 : Int
def z102 : S102 := ⟨(0 : Int), (0 : Int)⟩
def k102 : Kd S102 := Kd.iso (Kd.pair (Kd.int .i64) (Kd.int .i64)) (fun x : S102 => (x.f0, x.f1))
theorem k102_open {w : World} {x : S102} {cs : List Value} (h : k102.K w x cs) : cs = [.int .i64 x.f0, .int .i64 x.f1] := by
  obtain ⟨_, _, rfl, rfl, rfl⟩ := h
  exact rfl
theorem k102_openM {w : World} {base : Nat} {ok : Nat → Prop} {x : S102} {cs : List Value} (h : k102.M w base ok x cs) : cs = [.int .i64 x.f0, .int .i64 x.f1] := by
  obtain ⟨_, _, rfl, rfl, rfl⟩ := h
  exact rfl
theorem k102_mk (w : World) (x : S102)  : k102.K w x [.int .i64 x.f0, .int .i64 x.f1] := ⟨[.int .i64 x.f0], [.int .i64 x.f1], rfl, rfl, rfl⟩
theorem k102_mkM (w : World) (base : Nat) (ok : Nat → Prop) (x : S102)  : k102.M w base ok x [.int .i64 x.f0, .int .i64 x.f1] := ⟨[.int .i64 x.f0], [.int .i64 x.f1], rfl, rfl, rfl⟩
theorem k102_mkF (W : World) (ok : Nat → Prop) (x : S102) : Kd.FK k102 W ok x [.int .i64 x.f0, .int .i64 x.f1] := fun W2 _ => k102_mk W2 x
def rd_T102 (xs : List S102) (i : Int) : S102 := xs.getD i.toNat z102
theorem at_T102 {w : World} {A : Option Addr} {n : Nat} {xs : List S102} (h : Kd.C k102 w A n xs) (i : Int) (h0 : 0 ≤ i) (h1 : i < n) : ∃ ad , A = some ad ∧ w.cell? (ad.add (i.toNat * 2)) = some (.int .i64 (rd_T102 xs i).f0) ∧ w.cell? ⟨(ad.add (i.toNat * 2)).block, (ad.add (i.toNat * 2)).off + 1, none⟩ = some (.int .i64 (rd_T102 xs i).f1) := by
  obtain ⟨ad, c, e, _, hK, hc0⟩ := Kd.C_get h z102 i h0 h1
  have hc : ∀ j u, c[j]? = some u → w.cell? (ad.add (i.toNat * 2 + j)) = some u := hc0
  obtain rfl := k102_open hK
  exact ⟨ad, e, hc 0 _ rfl, by rw [← add_field _ _ 1 (by omega)]; exact hc 1 _ rfl⟩

def rd_L5 (xs : List (List S100)) (i : Int) : (List S100) := xs.getD i.toNat ([] : List S100)
theorem at_L5 {w : World} {A : Option Addr} {n : Nat} {xs : List (List S100)} (h : Kd.C (Kd.slice 100 k100) w A n xs) (i : Int) (h0 : 0 ≤ i) (h1 : i < n) : ∃ ad A0 c0, A = some ad ∧ w.cell? (ad.add i.toNat) = some (.slice A0 (rd_L5 xs i).length c0) ∧ (rd_L5 xs i).length ≤ c0 ∧ k100.C w A0 (rd_L5 xs i).length (rd_L5 xs i) := by
  obtain ⟨ad, c, e, _, hK, hc0⟩ := Kd.C_get h ([] : List S100) i h0 h1
  have hc : ∀ j u, c[j]? = some u → w.cell? (ad.add (i.toNat * 1 + j)) = some u := hc0
  obtain ⟨A0, c0, rfl, l0, g0⟩ := hK
  exact ⟨ad, A0, c0, e, by have hq := hc 0 _ rfl; rwa [Nat.mul_one, Nat.add_zero] at hq, l0, g0⟩

def rd_L6 (xs : List (List S102)) (i : Int) : (List S102) := xs.getD i.toNat ([] : List S102)
theorem at_L6 {w : World} {A : Option Addr} {n : Nat} {xs : List (List S102)} (h : Kd.C (Kd.slice 102 k102) w A n xs) (i : Int) (h0 : 0 ≤ i) (h1 : i < n) : ∃ ad A0 c0, A = some ad ∧ w.cell? (ad.add i.toNat) = some (.slice A0 (rd_L6 xs i).length c0) ∧ (rd_L6 xs i).length ≤ c0 ∧ k102.C w A0 (rd_L6 xs i).length (rd_L6 xs i) := by
  obtain ⟨ad, c, e, _, hK, hc0⟩ := Kd.C_get h ([] : List S102) i h0 h1
  have hc : ∀ j u, c[j]? = some u → w.cell? (ad.add (i.toNat * 1 + j)) = some u := hc0
  obtain ⟨A0, c0, rfl, l0, g0⟩ := hK
  exact ⟨ad, A0, c0, e, by have hq := hc 0 _ rfl; rwa [Nat.mul_one, Nat.add_zero] at hq, l0, g0⟩

/-! #### struct type 40 -/
structure S40 where
  f0 : Int
  f1 : Int
  f2 : Int
  f3 : Int
  f4 : Int
  f5 : Int
  f6 : Int
  f7 : ByteArray
  f8 : ByteArray
  f9 : (List S100)
  f10 : (List S102)
def z40 : S40 := ⟨(0 : Int), (0 : Int), (0 : Int), (0 : Int), (0 : Int), (0 : Int), (0 : Int), (⟨#[]⟩ : ByteArray), (⟨#[]⟩ : ByteArray), ([] : List S100), ([] : List S102)⟩
def k40 : Kd S40 := Kd.iso (Kd.pair (Kd.int .i64) (Kd.pair (Kd.int .i64) (Kd.pair (Kd.int .i64) (Kd.pair (Kd.int .i64) (Kd.pair (Kd.int .i64) (Kd.pair (Kd.int .i64) (Kd.pair (Kd.int .i64) (Kd.pair Kd.string (Kd.pair Kd.string (Kd.pair (Kd.slice 100 k100) (Kd.slice 102 k102))))))))))) (fun x : S40 => (x.f0, x.f1, x.f2, x.f3, x.f4, x.f5, x.f6, x.f7, x.f8, x.f9, x.f10))
theorem k40_open {w : World} {x : S40} {cs : List Value} (h : k40.K w x cs) : ∃ A9 c9 A10 c10, cs = [.int .i64 x.f0, .int .i64 x.f1, .int .i64 x.f2, .int .i64 x.f3, .int .i64 x.f4, .int .i64 x.f5, .int .i64 x.f6, .string x.f7, .string x.f8, .slice A9 x.f9.length c9, .slice A10 x.f10.length c10] ∧ x.f9.length ≤ c9 ∧ k100.C w A9 x.f9.length x.f9 ∧ x.f10.length ≤ c10 ∧ k102.C w A10 x.f10.length x.f10 := by
  obtain ⟨_, _, rfl, rfl, ⟨_, _, rfl, rfl, ⟨_, _, rfl, rfl, ⟨_, _, rfl, rfl, ⟨_, _, rfl, rfl, ⟨_, _, rfl, rfl, ⟨_, _, rfl, rfl, ⟨_, _, rfl, rfl, ⟨_, _, rfl, rfl, ⟨_, _, rfl, ⟨A9, c9, rfl, l9, g9⟩, ⟨A10, c10, rfl, l10, g10⟩⟩⟩⟩⟩⟩⟩⟩⟩⟩⟩ := h
  exact ⟨A9, c9, A10, c10, rfl, l9, g9, l10, g10⟩
theorem k40_openM {w : World} {base : Nat} {ok : Nat → Prop} {x : S40} {cs : List Value} (h : k40.M w base ok x cs) : ∃ v9 v10, cs = [.int .i64 x.f0, .int .i64 x.f1, .int .i64 x.f2, .int .i64 x.f3, .int .i64 x.f4, .int .i64 x.f5, .int .i64 x.f6, .string x.f7, .string x.f8, v9, v10] ∧ k100.R 100 w base ok v9 x.f9 ∧ k102.R 102 w base ok v10 x.f10 := by
  obtain ⟨_, _, rfl, rfl, ⟨_, _, rfl, rfl, ⟨_, _, rfl, rfl, ⟨_, _, rfl, rfl, ⟨_, _, rfl, rfl, ⟨_, _, rfl, rfl, ⟨_, _, rfl, rfl, ⟨_, _, rfl, rfl, ⟨_, _, rfl, rfl, ⟨_, _, rfl, ⟨v9, rfl, g9⟩, ⟨v10, rfl, g10⟩⟩⟩⟩⟩⟩⟩⟩⟩⟩⟩ := h
  exact ⟨v9, v10, rfl, g9, g10⟩
theorem k40_mk (w : World) (x : S40) {A9 : Option Addr} {c9 : Nat} (l9 : x.f9.length ≤ c9) (g9 : k100.C w A9 x.f9.length x.f9) {A10 : Option Addr} {c10 : Nat} (l10 : x.f10.length ≤ c10) (g10 : k102.C w A10 x.f10.length x.f10) : k40.K w x [.int .i64 x.f0, .int .i64 x.f1, .int .i64 x.f2, .int .i64 x.f3, .int .i64 x.f4, .int .i64 x.f5, .int .i64 x.f6, .string x.f7, .string x.f8, .slice A9 x.f9.length c9, .slice A10 x.f10.length c10] := ⟨[.int .i64 x.f0], [.int .i64 x.f1, .int .i64 x.f2, .int .i64 x.f3, .int .i64 x.f4, .int .i64 x.f5, .int .i64 x.f6, .string x.f7, .string x.f8, .slice A9 x.f9.length c9, .slice A10 x.f10.length c10], rfl, rfl, ⟨[.int .i64 x.f1], [.int .i64 x.f2, .int .i64 x.f3, .int .i64 x.f4, .int .i64 x.f5, .int .i64 x.f6, .string x.f7, .string x.f8, .slice A9 x.f9.length c9, .slice A10 x.f10.length c10], rfl, rfl, ⟨[.int .i64 x.f2], [.int .i64 x.f3, .int .i64 x.f4, .int .i64 x.f5, .int .i64 x.f6, .string x.f7, .string x.f8, .slice A9 x.f9.length c9, .slice A10 x.f10.length c10], rfl, rfl, ⟨[.int .i64 x.f3], [.int .i64 x.f4, .int .i64 x.f5, .int .i64 x.f6, .string x.f7, .string x.f8, .slice A9 x.f9.length c9, .slice A10 x.f10.length c10], rfl, rfl, ⟨[.int .i64 x.f4], [.int .i64 x.f5, .int .i64 x.f6, .string x.f7, .string x.f8, .slice A9 x.f9.length c9, .slice A10 x.f10.length c10], rfl, rfl, ⟨[.int .i64 x.f5], [.int .i64 x.f6, .string x.f7, .string x.f8, .slice A9 x.f9.length c9, .slice A10 x.f10.length c10], rfl, rfl, ⟨[.int .i64 x.f6], [.string x.f7, .string x.f8, .slice A9 x.f9.length c9, .slice A10 x.f10.length c10], rfl, rfl, ⟨[.string x.f7], [.string x.f8, .slice A9 x.f9.length c9, .slice A10 x.f10.length c10], rfl, rfl, ⟨[.string x.f8], [.slice A9 x.f9.length c9, .slice A10 x.f10.length c10], rfl, rfl, ⟨[.slice A9 x.f9.length c9], [.slice A10 x.f10.length c10], rfl, ⟨A9, c9, rfl, l9, g9⟩, ⟨A10, c10, rfl, l10, g10⟩⟩⟩⟩⟩⟩⟩⟩⟩⟩⟩
theorem k40_mkM (w : World) (base : Nat) (ok : Nat → Prop) (x : S40) {v9 : Value} (g9 : k100.R 100 w base ok v9 x.f9) {v10 : Value} (g10 : k102.R 102 w base ok v10 x.f10) : k40.M w base ok x [.int .i64 x.f0, .int .i64 x.f1, .int .i64 x.f2, .int .i64 x.f3, .int .i64 x.f4, .int .i64 x.f5, .int .i64 x.f6, .string x.f7, .string x.f8, v9, v10] := ⟨[.int .i64 x.f0], [.int .i64 x.f1, .int .i64 x.f2, .int .i64 x.f3, .int .i64 x.f4, .int .i64 x.f5, .int .i64 x.f6, .string x.f7, .string x.f8, v9, v10], rfl, rfl, ⟨[.int .i64 x.f1], [.int .i64 x.f2, .int .i64 x.f3, .int .i64 x.f4, .int .i64 x.f5, .int .i64 x.f6, .string x.f7, .string x.f8, v9, v10], rfl, rfl, ⟨[.int .i64 x.f2], [.int .i64 x.f3, .int .i64 x.f4, .int .i64 x.f5, .int .i64 x.f6, .string x.f7, .string x.f8, v9, v10], rfl, rfl, ⟨[.int .i64 x.f3], [.int .i64 x.f4, .int .i64 x.f5, .int .i64 x.f6, .string x.f7, .string x.f8, v9, v10], rfl, rfl, ⟨[.int .i64 x.f4], [.int .i64 x.f5, .int .i64 x.f6, .string x.f7, .string x.f8, v9, v10], rfl, rfl, ⟨[.int .i64 x.f5], [.int .i64 x.f6, .string x.f7, .string x.f8, v9, v10], rfl, rfl, ⟨[.int .i64 x.f6], [.string x.f7, .string x.f8, v9, v10], rfl, rfl, ⟨[.string x.f7], [.string x.f8, v9, v10], rfl, rfl, ⟨[.string x.f8], [v9, v10], rfl, rfl, ⟨[v9], [v10], rfl, ⟨v9, rfl, g9⟩, ⟨v10, rfl, g10⟩⟩⟩⟩⟩⟩⟩⟩⟩⟩⟩
theorem k40_openF {W : World} {ok : Nat → Prop} {x : S40} {cs : List Value} (h : Kd.FK k40 W ok x cs) : ∃ A9 c9 A10 c10, cs = [.int .i64 x.f0, .int .i64 x.f1, .int .i64 x.f2, .int .i64 x.f3, .int .i64 x.f4, .int .i64 x.f5, .int .i64 x.f6, .string x.f7, .string x.f8, .slice A9 x.f9.length c9, .slice A10 x.f10.length c10] ∧ x.f9.length ≤ c9 ∧ Kd.F k100 W ok A9 x.f9.length x.f9 ∧ x.f10.length ≤ c10 ∧ Kd.F k102 W ok A10 x.f10.length x.f10 := by
  obtain ⟨A9, c9, A10, c10, rfl, l9, _, l10, _⟩ := k40_open (Kd.FK_now h)
  exact ⟨A9, c9, A10, c10, rfl, l9, (fun W' hW => by obtain ⟨A9_, c9_, A10_, c10_, he, l9_, g9_, l10_, g10_⟩ := k40_open (h W' hW); injection (Option.some.inj (show some (Value.slice A9 x.f9.length c9) = some (Value.slice A9_ x.f9.length c9_) from congrArg (fun l => l[9]?) he)) with ha_ _ _; rw [ha_]; exact g9_), l10, (fun W' hW => by obtain ⟨A9_, c9_, A10_, c10_, he, l9_, g9_, l10_, g10_⟩ := k40_open (h W' hW); injection (Option.some.inj (show some (Value.slice A10 x.f10.length c10) = some (Value.slice A10_ x.f10.length c10_) from congrArg (fun l => l[10]?) he)) with ha_ _ _; rw [ha_]; exact g10_)⟩
theorem k40_mkF (W : World) (ok : Nat → Prop) (x : S40) {A9 : Option Addr} {c9 : Nat} (l9 : x.f9.length ≤ c9) (g9 : Kd.F k100 W ok A9 x.f9.length x.f9) {A10 : Option Addr} {c10 : Nat} (l10 : x.f10.length ≤ c10) (g10 : Kd.F k102 W ok A10 x.f10.length x.f10) : Kd.FK k40 W ok x [.int .i64 x.f0, .int .i64 x.f1, .int .i64 x.f2, .int .i64 x.f3, .int .i64 x.f4, .int .i64 x.f5, .int .i64 x.f6, .string x.f7, .string x.f8, .slice A9 x.f9.length c9, .slice A10 x.f10.length c10] := fun W2 hW => k40_mk W2 x l9 (g9 W2 hW) l10 (g10 W2 hW)
def rd_T40 (xs : List S40) (i : Int) : S40 := xs.getD i.toNat z40
theorem at_T40 {w : World} {A : Option Addr} {n : Nat} {xs : List S40} (h : Kd.C k40 w A n xs) (i : Int) (h0 : 0 ≤ i) (h1 : i < n) : ∃ ad A9 c9 A10 c10, A = some ad ∧ w.cell? (ad.add (i.toNat * 11)) = some (.int .i64 (rd_T40 xs i).f0) ∧ w.cell? ⟨(ad.add (i.toNat * 11)).block, (ad.add (i.toNat * 11)).off + 1, none⟩ = some (.int .i64 (rd_T40 xs i).f1) ∧ w.cell? ⟨(ad.add (i.toNat * 11)).block, (ad.add (i.toNat * 11)).off + 2, none⟩ = some (.int .i64 (rd_T40 xs i).f2) ∧ w.cell? ⟨(ad.add (i.toNat * 11)).block, (ad.add (i.toNat * 11)).off + 3, none⟩ = some (.int .i64 (rd_T40 xs i).f3) ∧ w.cell? ⟨(ad.add (i.toNat * 11)).block, (ad.add (i.toNat * 11)).off + 4, none⟩ = some (.int .i64 (rd_T40 xs i).f4) ∧ w.cell? ⟨(ad.add (i.toNat * 11)).block, (ad.add (i.toNat * 11)).off + 5, none⟩ = some (.int .i64 (rd_T40 xs i).f5) ∧ w.cell? ⟨(ad.add (i.toNat * 11)).block, (ad.add (i.toNat * 11)).off + 6, none⟩ = some (.int .i64 (rd_T40 xs i).f6) ∧ w.cell? ⟨(ad.add (i.toNat * 11)).block, (ad.add (i.toNat * 11)).off + 7, none⟩ = some (.string (rd_T40 xs i).f7) ∧ w.cell? ⟨(ad.add (i.toNat * 11)).block, (ad.add (i.toNat * 11)).off + 8, none⟩ = some (.string (rd_T40 xs i).f8) ∧ w.cell? ⟨(ad.add (i.toNat * 11)).block, (ad.add (i.toNat * 11)).off + 9, none⟩ = some (.slice A9 (rd_T40 xs i).f9.length c9) ∧ w.cell? ⟨(ad.add (i.toNat * 11)).block, (ad.add (i.toNat * 11)).off + 10, none⟩ = some (.slice A10 (rd_T40 xs i).f10.length c10) ∧ (rd_T40 xs i).f9.length ≤ c9 ∧ k100.C w A9 (rd_T40 xs i).f9.length (rd_T40 xs i).f9 ∧ (rd_T40 xs i).f10.length ≤ c10 ∧ k102.C w A10 (rd_T40 xs i).f10.length (rd_T40 xs i).f10 := by
  obtain ⟨ad, c, e, _, hK, hc0⟩ := Kd.C_get h z40 i h0 h1
  have hc : ∀ j u, c[j]? = some u → w.cell? (ad.add (i.toNat * 11 + j)) = some u := hc0
  obtain ⟨A9, c9, A10, c10, rfl, l9, g9, l10, g10⟩ := k40_open hK
  exact ⟨ad, A9, c9, A10, c10, e, hc 0 _ rfl, by rw [← add_field _ _ 1 (by omega)]; exact hc 1 _ rfl, by rw [← add_field _ _ 2 (by omega)]; exact hc 2 _ rfl, by rw [← add_field _ _ 3 (by omega)]; exact hc 3 _ rfl, by rw [← add_field _ _ 4 (by omega)]; exact hc 4 _ rfl, by rw [← add_field _ _ 5 (by omega)]; exact hc 5 _ rfl, by rw [← add_field _ _ 6 (by omega)]; exact hc 6 _ rfl, by rw [← add_field _ _ 7 (by omega)]; exact hc 7 _ rfl, by rw [← add_field _ _ 8 (by omega)]; exact hc 8 _ rfl, by rw [← add_field _ _ 9 (by omega)]; exact hc 9 _ rfl, by rw [← add_field _ _ 10 (by omega)]; exact hc 10 _ rfl, l9, g9, l10, g10⟩

/-! #### struct type 58 -/
structure S58 where
  f0 : Int
  f1 : S40
def z58 : S58 := ⟨(0 : Int), z40⟩
def k58 : Kd S58 := Kd.iso (Kd.pair (Kd.int .i64) k40) (fun x : S58 => (x.f0, x.f1))
theorem k58_open {w : World} {x : S58} {cs : List Value} (h : k58.K w x cs) : ∃ A10 c10 A11 c11, cs = [.int .i64 x.f0, .int .i64 x.f1.f0, .int .i64 x.f1.f1, .int .i64 x.f1.f2, .int .i64 x.f1.f3, .int .i64 x.f1.f4, .int .i64 x.f1.f5, .int .i64 x.f1.f6, .string x.f1.f7, .string x.f1.f8, .slice A10 x.f1.f9.length c10, .slice A11 x.f1.f10.length c11] ∧ x.f1.f9.length ≤ c10 ∧ k100.C w A10 x.f1.f9.length x.f1.f9 ∧ x.f1.f10.length ≤ c11 ∧ k102.C w A11 x.f1.f10.length x.f1.f10 := by
  obtain ⟨_, _, rfl, rfl, s1⟩ := h
  obtain ⟨A10, c10, A11, c11, rfl, l10, g10, l11, g11⟩ := k40_open s1
  exact ⟨A10, c10, A11, c11, rfl, l10, g10, l11, g11⟩
theorem k58_openM {w : World} {base : Nat} {ok : Nat → Prop} {x : S58} {cs : List Value} (h : k58.M w base ok x cs) : ∃ v10 v11, cs = [.int .i64 x.f0, .int .i64 x.f1.f0, .int .i64 x.f1.f1, .int .i64 x.f1.f2, .int .i64 x.f1.f3, .int .i64 x.f1.f4, .int .i64 x.f1.f5, .int .i64 x.f1.f6, .string x.f1.f7, .string x.f1.f8, v10, v11] ∧ k100.R 100 w base ok v10 x.f1.f9 ∧ k102.R 102 w base ok v11 x.f1.f10 := by
  obtain ⟨_, _, rfl, rfl, s1⟩ := h
  obtain ⟨v10, v11, rfl, g10, g11⟩ := k40_openM s1
  exact ⟨v10, v11, rfl, g10, g11⟩
theorem k58_mk (w : World) (x : S58) {A10 : Option Addr} {c10 : Nat} (l10 : x.f1.f9.length ≤ c10) (g10 : k100.C w A10 x.f1.f9.length x.f1.f9) {A11 : Option Addr} {c11 : Nat} (l11 : x.f1.f10.length ≤ c11) (g11 : k102.C w A11 x.f1.f10.length x.f1.f10) : k58.K w x [.int .i64 x.f0, .int .i64 x.f1.f0, .int .i64 x.f1.f1, .int .i64 x.f1.f2, .int .i64 x.f1.f3, .int .i64 x.f1.f4, .int .i64 x.f1.f5, .int .i64 x.f1.f6, .string x.f1.f7, .string x.f1.f8, .slice A10 x.f1.f9.length c10, .slice A11 x.f1.f10.length c11] := ⟨[.int .i64 x.f0], [.int .i64 x.f1.f0, .int .i64 x.f1.f1, .int .i64 x.f1.f2, .int .i64 x.f1.f3, .int .i64 x.f1.f4, .int .i64 x.f1.f5, .int .i64 x.f1.f6, .string x.f1.f7, .string x.f1.f8, .slice A10 x.f1.f9.length c10, .slice A11 x.f1.f10.length c11], rfl, rfl, (k40_mk w x.f1 l10 g10 l11 g11)⟩
theorem k58_mkM (w : World) (base : Nat) (ok : Nat → Prop) (x : S58) {v10 : Value} (g10 : k100.R 100 w base ok v10 x.f1.f9) {v11 : Value} (g11 : k102.R 102 w base ok v11 x.f1.f10) : k58.M w base ok x [.int .i64 x.f0, .int .i64 x.f1.f0, .int .i64 x.f1.f1, .int .i64 x.f1.f2, .int .i64 x.f1.f3, .int .i64 x.f1.f4, .int .i64 x.f1.f5, .int .i64 x.f1.f6, .string x.f1.f7, .string x.f1.f8, v10, v11] := ⟨[.int .i64 x.f0], [.int .i64 x.f1.f0, .int .i64 x.f1.f1, .int .i64 x.f1.f2, .int .i64 x.f1.f3, .int .i64 x.f1.f4, .int .i64 x.f1.f5, .int .i64 x.f1.f6, .string x.f1.f7, .string x.f1.f8, v10, v11], rfl, rfl, (k40_mkM w base ok x.f1 g10 g11)⟩
theorem k58_openF {W : World} {ok : Nat → Prop} {x : S58} {cs : List Value} (h : Kd.FK k58 W ok x cs) : ∃ A10 c10 A11 c11, cs = [.int .i64 x.f0, .int .i64 x.f1.f0, .int .i64 x.f1.f1, .int .i64 x.f1.f2, .int .i64 x.f1.f3, .int .i64 x.f1.f4, .int .i64 x.f1.f5, .int .i64 x.f1.f6, .string x.f1.f7, .string x.f1.f8, .slice A10 x.f1.f9.length c10, .slice A11 x.f1.f10.length c11] ∧ x.f1.f9.length ≤ c10 ∧ Kd.F k100 W ok A10 x.f1.f9.length x.f1.f9 ∧ x.f1.f10.length ≤ c11 ∧ Kd.F k102 W ok A11 x.f1.f10.length x.f1.f10 := by
  obtain ⟨A10, c10, A11, c11, rfl, l10, _, l11, _⟩ := k58_open (Kd.FK_now h)
  exact ⟨A10, c10, A11, c11, rfl, l10, (fun W' hW => by obtain ⟨A10_, c10_, A11_, c11_, he, l10_, g10_, l11_, g11_⟩ := k58_open (h W' hW); injection (Option.some.inj (show some (Value.slice A10 x.f1.f9.length c10) = some (Value.slice A10_ x.f1.f9.length c10_) from congrArg (fun l => l[10]?) he)) with ha_ _ _; rw [ha_]; exact g10_), l11, (fun W' hW => by obtain ⟨A10_, c10_, A11_, c11_, he, l10_, g10_, l11_, g11_⟩ := k58_open (h W' hW); injection (Option.some.inj (show some (Value.slice A11 x.f1.f10.length c11) = some (Value.slice A11_ x.f1.f10.length c11_) from congrArg (fun l => l[11]?) he)) with ha_ _ _; rw [ha_]; exact g11_)⟩
theorem k58_mkF (W : World) (ok : Nat → Prop) (x : S58) {A10 : Option Addr} {c10 : Nat} (l10 : x.f1.f9.length ≤ c10) (g10 : Kd.F k100 W ok A10 x.f1.f9.length x.f1.f9) {A11 : Option Addr} {c11 : Nat} (l11 : x.f1.f10.length ≤ c11) (g11 : Kd.F k102 W ok A11 x.f1.f10.length x.f1.f10) : Kd.FK k58 W ok x [.int .i64 x.f0, .int .i64 x.f1.f0, .int .i64 x.f1.f1, .int .i64 x.f1.f2, .int .i64 x.f1.f3, .int .i64 x.f1.f4, .int .i64 x.f1.f5, .int .i64 x.f1.f6, .string x.f1.f7, .string x.f1.f8, .slice A10 x.f1.f9.length c10, .slice A11 x.f1.f10.length c11] := fun W2 hW => k58_mk W2 x l10 (g10 W2 hW) l11 (g11 W2 hW)
def rd_T58 (xs : List S58) (i : Int) : S58 := xs.getD i.toNat z58
theorem at_T58 {w : World} {A : Option Addr} {n : Nat} {xs : List S58} (h : Kd.C k58 w A n xs) (i : Int) (h0 : 0 ≤ i) (h1 : i < n) : ∃ ad A10 c10 A11 c11, A = some ad ∧ w.cell? (ad.add (i.toNat * 12)) = some (.int .i64 (rd_T58 xs i).f0) ∧ w.cell? ⟨(ad.add (i.toNat * 12)).block, (ad.add (i.toNat * 12)).off + 1, none⟩ = some (.int .i64 (rd_T58 xs i).f1.f0) ∧ w.cell? ⟨(ad.add (i.toNat * 12)).block, (ad.add (i.toNat * 12)).off + 2, none⟩ = some (.int .i64 (rd_T58 xs i).f1.f1) ∧ w.cell? ⟨(ad.add (i.toNat * 12)).block, (ad.add (i.toNat * 12)).off + 3, none⟩ = some (.int .i64 (rd_T58 xs i).f1.f2) ∧ w.cell? ⟨(ad.add (i.toNat * 12)).block, (ad.add (i.toNat * 12)).off + 4, none⟩ = some (.int .i64 (rd_T58 xs i).f1.f3) ∧ w.cell? ⟨(ad.add (i.toNat * 12)).block, (ad.add (i.toNat * 12)).off + 5, none⟩ = some (.int .i64 (rd_T58 xs i).f1.f4) ∧ w.cell? ⟨(ad.add (i.toNat * 12)).block, (ad.add (i.toNat * 12)).off + 6, none⟩ = some (.int .i64 (rd_T58 xs i).f1.f5) ∧ w.cell? ⟨(ad.add (i.toNat * 12)).block, (ad.add (i.toNat * 12)).off + 7, none⟩ = some (.int .i64 (rd_T58 xs i).f1.f6) ∧ w.cell? ⟨(ad.add (i.toNat * 12)).block, (ad.add (i.toNat * 12)).off + 8, none⟩ = some (.string (rd_T58 xs i).f1.f7) ∧ w.cell? ⟨(ad.add (i.toNat * 12)).block, (ad.add (i.toNat * 12)).off + 9, none⟩ = some (.string (rd_T58 xs i).f1.f8) ∧ w.cell? ⟨(ad.add (i.toNat * 12)).block, (ad.add (i.toNat * 12)).off + 10, none⟩ = some (.slice A10 (rd_T58 xs i).f1.f9.length c10) ∧ w.cell? ⟨(ad.add (i.toNat * 12)).block, (ad.add (i.toNat * 12)).off + 11, none⟩ = some (.slice A11 (rd_T58 xs i).f1.f10.length c11) ∧ (rd_T58 xs i).f1.f9.length ≤ c10 ∧ k100.C w A10 (rd_T58 xs i).f1.f9.length (rd_T58 xs i).f1.f9 ∧ (rd_T58 xs i).f1.f10.length ≤ c11 ∧ k102.C w A11 (rd_T58 xs i).f1.f10.length (rd_T58 xs i).f1.f10 := by
  obtain ⟨ad, c, e, _, hK, hc0⟩ := Kd.C_get h z58 i h0 h1
  have hc : ∀ j u, c[j]? = some u → w.cell? (ad.add (i.toNat * 12 + j)) = some u := hc0
  obtain ⟨A10, c10, A11, c11, rfl, l10, g10, l11, g11⟩ := k58_open hK
  exact ⟨ad, A10, c10, A11, c11, e, hc 0 _ rfl, by rw [← add_field _ _ 1 (by omega)]; exact hc 1 _ rfl, by rw [← add_field _ _ 2 (by omega)]; exact hc 2 _ rfl, by rw [← add_field _ _ 3 (by omega)]; exact hc 3 _ rfl, by rw [← add_field _ _ 4 (by omega)]; exact hc 4 _ rfl, by rw [← add_field _ _ 5 (by omega)]; exact hc 5 _ rfl, by rw [← add_field _ _ 6 (by omega)]; exact hc 6 _ rfl, by rw [← add_field _ _ 7 (by omega)]; exact hc 7 _ rfl, by rw [← add_field _ _ 8 (by omega)]; exact hc 8 _ rfl, by rw [← add_field _ _ 9 (by omega)]; exact hc 9 _ rfl, by rw [← add_field _ _ 10 (by omega)]; exact hc 10 _ rfl, by rw [← add_field _ _ 11 (by omega)]; exact hc 11 _ rfl, l10, g10, l11, g11⟩

def rd_L9 (xs : List (List S58)) (i : Int) : (List S58) := xs.getD i.toNat ([] : List S58)
theorem at_L9 {w : World} {A : Option Addr} {n : Nat} {xs : List (List S58)} (h : Kd.C (Kd.slice 58 k58) w A n xs) (i : Int) (h0 : 0 ≤ i) (h1 : i < n) : ∃ ad A0 c0, A = some ad ∧ w.cell? (ad.add i.toNat) = some (.slice A0 (rd_L9 xs i).length c0) ∧ (rd_L9 xs i).length ≤ c0 ∧ k58.C w A0 (rd_L9 xs i).length (rd_L9 xs i) := by
  obtain ⟨ad, c, e, _, hK, hc0⟩ := Kd.C_get h ([] : List S58) i h0 h1
  have hc : ∀ j u, c[j]? = some u → w.cell? (ad.add (i.toNat * 1 + j)) = some u := hc0
  obtain ⟨A0, c0, rfl, l0, g0⟩ := hK
  exact ⟨ad, A0, c0, e, by have hq := hc 0 _ rfl; rwa [Nat.mul_one, Nat.add_zero] at hq, l0, g0⟩

def rd_L10 (xs : List (List S23)) (i : Int) : (List S23) := xs.getD i.toNat ([] : List S23)
theorem at_L10 {w : World} {A : Option Addr} {n : Nat} {xs : List (List S23)} (h : Kd.C (Kd.slice 23 k23) w A n xs) (i : Int) (h0 : 0 ≤ i) (h1 : i < n) : ∃ ad A0 c0, A = some ad ∧ w.cell? (ad.add i.toNat) = some (.slice A0 (rd_L10 xs i).length c0) ∧ (rd_L10 xs i).length ≤ c0 ∧ k23.C w A0 (rd_L10 xs i).length (rd_L10 xs i) := by
  obtain ⟨ad, c, e, _, hK, hc0⟩ := Kd.C_get h ([] : List S23) i h0 h1
  have hc : ∀ j u, c[j]? = some u → w.cell? (ad.add (i.toNat * 1 + j)) = some u := hc0
  obtain ⟨A0, c0, rfl, l0, g0⟩ := hK
  exact ⟨ad, A0, c0, e, by have hq := hc 0 _ rfl; rwa [Nat.mul_one, Nat.add_zero] at hq, l0, g0⟩

end Go.Proofs.Ytlgcmcieipdcgaa.X14
