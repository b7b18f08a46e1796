-- Written by this session's xprint.py (the kit's print, with contracts proved by hand).
import Derived.Test.YtbdfdfahpdilpaaProg
import Derived.Below
import Derived.Deep.Draws
import Derived.Deep.AppendLies
import Derived.Maps.AppendAt
import Derived.OwnWalk
import Derived.Laws.BytesArg
import Derived.Laws.MakeOwn
import Derived.Laws.OwnMore
import Derived.Deep.OwnRows
import Derived.Tactics
import Derived.Lib.ConvBytes
import Derived.Laws.Slices
import Derived.WalkKit
import Derived.KernelRfl
import Derived.RowKit3
import Derived.Deep.LoopGhost
import Derived.Deep.QuietTactic
import Derived.BigQuiet
import Derived.WideLaws
import Derived.Deep.DeepCutAuto
import Derived.Deep.CutBlock
import Derived.Deep.RegionHeld3
import Derived.Laws.Rows
import Derived.Lib.AppendStr
import Derived.ArgAppend
import Derived.Laws.IdiomCopy
import Derived.OrdersHeld
import Derived.Laws.BitsLemmas
import Derived.RowKit
import Derived.Test.YtbdfdfahpdilpaaZC
import Derived.Test.YtbdfdfahpdilpaaWWords
import Derived.Test.YtbdfdfahpdilpaaWLast
import Derived.Test.YtbdfdfahpdilpaaWTab
import Derived.Test.YtbdfdfahpdilpaaWFour
import Derived.Test.YtbdfdfahpdilpaaWQPut
import Derived.Test.YtbdfdfahpdilpaaWApart
import Derived.Test.YtbdfdfahpdilpaaWArr
import Derived.Test.YtbdfdfahpdilpaaWZeros
import Derived.Test.YtbdfdfahpdilpaaWFoot
import Derived.Test.YtbdfdfahpdilpaaWKept
import Derived.Test.YtbdfdfahpdilpaaWShare
import Derived.Test.YtbdfdfahpdilpaaWN
import Derived.Test.YtbdfdfahpdilpaaWFootNe
import Derived.Test.YtbdfdfahpdilpaaWAt
import Derived.Test.YtbdfdfahpdilpaaWEqStruct
import Derived.Test.YtbdfdfahpdilpaaWRepsOne
import Derived.Test.YtbdfdfahpdilpaaWInv
import Derived.Test.YtbdfdfahpdilpaaWInvWords
import Derived.Test.YtbdfdfahpdilpaaWGuard
import Derived.Test.YtbdfdfahpdilpaaWNEv
import Derived.Test.YtbdfdfahpdilpaaWMore
namespace Go.Proofs.Ytbdfdfahpdilpaa.X12
open Go.RowKit Go.Proofs.YtbdfdfahpdilpaaW.PrintWords Go.Proofs.YtbdfdfahpdilpaaW.PrintLast Go.Proofs.YtbdfdfahpdilpaaW.PrintMore
attribute [local go_sem] max2_int min2_int max_two min_two max_three min_three max_four min_four   -- for this text's walks alone
set_option linter.unusedVariables false
set_option linter.unusedSimpArgs false



def errW : Option Int → Value
  | none => .nilIface
  | some c => .iface 0 (.int .i64 c)
theorem errW_none : errW none = .nilIface := rfl
theorem errW_some (c : Int) : errW (some c) = .iface 0 (.int .i64 c) := rfl

-- the values' own types
/-! #### struct type 99 -/
structure S99 where
  f0 : Int
  f1 : Int
  f2 : ByteArray
def z99 : S99 := ⟨(0 : Int), (0 : Int), (⟨#[]⟩ : ByteArray)⟩
def k99 : Kd S99 := Kd.iso (Kd.pair (Kd.int .u32) (Kd.pair (Kd.int .u32) Kd.string)) (fun x : S99 => (x.f0, x.f1, x.f2))
theorem k99_open {w : World} {x : S99} {cs : List Value} (h : k99.K w x cs) : cs = [.int .u32 x.f0, .int .u32 x.f1, .string x.f2] := by
  obtain ⟨_, _, rfl, rfl, ⟨_, _, rfl, rfl, rfl⟩⟩ := h
  exact rfl
theorem k99_openM {w : World} {base : Nat} {ok : Nat → Prop} {x : S99} {cs : List Value} (h : k99.M w base ok x cs) : cs = [.int .u32 x.f0, .int .u32 x.f1, .string x.f2] := by
  obtain ⟨_, _, rfl, rfl, ⟨_, _, rfl, rfl, rfl⟩⟩ := h
  exact rfl
theorem k99_mk (w : World) (x : S99)  : k99.K w x [.int .u32 x.f0, .int .u32 x.f1, .string x.f2] := ⟨[.int .u32 x.f0], [.int .u32 x.f1, .string x.f2], rfl, rfl, ⟨[.int .u32 x.f1], [.string x.f2], rfl, rfl, rfl⟩⟩
theorem k99_mkM (w : World) (base : Nat) (ok : Nat → Prop) (x : S99)  : k99.M w base ok x [.int .u32 x.f0, .int .u32 x.f1, .string x.f2] := ⟨[.int .u32 x.f0], [.int .u32 x.f1, .string x.f2], rfl, rfl, ⟨[.int .u32 x.f1], [.string x.f2], rfl, rfl, rfl⟩⟩
def rd_T99 (xs : List S99) (i : Int) : S99 := xs.getD i.toNat z99
theorem at_T99 {w : World} {A : Option Addr} {n : Nat} {xs : List S99} (h : Kd.C k99 w A n xs) (i : Int) (h0 : 0 ≤ i) (h1 : i < n) : ∃ ad , A = some ad ∧ w.cell? (ad.add (i.toNat * 3)) = some (.int .u32 (rd_T99 xs i).f0) ∧ w.cell? ⟨(ad.add (i.toNat * 3)).block, (ad.add (i.toNat * 3)).off + 1, none⟩ = some (.int .u32 (rd_T99 xs i).f1) ∧ w.cell? ⟨(ad.add (i.toNat * 3)).block, (ad.add (i.toNat * 3)).off + 2, none⟩ = some (.string (rd_T99 xs i).f2) := by
  obtain ⟨ad, c, e, _, hK, hc0⟩ := Kd.C_get h z99 i h0 h1
  have hc : ∀ j u, c[j]? = some u → w.cell? (ad.add (i.toNat * 3 + j)) = some u := hc0
  obtain rfl := k99_open hK
  exact ⟨ad, e, hc 0 _ rfl, by rw [← add_field _ _ 1 (by omega)]; exact hc 1 _ rfl, by rw [← add_field _ _ 2 (by omega)]; exact hc 2 _ rfl⟩

/-! #### struct type 61 -/
structure S61 where
  f0 : Int
  f1 : Int
def z61 : S61 := ⟨(0 : Int), (0 : Int)⟩
def k61 : Kd S61 := Kd.iso (Kd.pair (Kd.int .i64) (Kd.int .i64)) (fun x : S61 => (x.f0, x.f1))
theorem k61_open {w : World} {x : S61} {cs : List Value} (h : k61.K w x cs) : cs = [.int .i64 x.f0, .int .i64 x.f1] := by
  obtain ⟨_, _, rfl, rfl, rfl⟩ := h
  exact rfl
theorem k61_openM {w : World} {base : Nat} {ok : Nat → Prop} {x : S61} {cs : List Value} (h : k61.M w base ok x cs) : cs = [.int .i64 x.f0, .int .i64 x.f1] := by
  obtain ⟨_, _, rfl, rfl, rfl⟩ := h
  exact rfl
theorem k61_mk (w : World) (x : S61)  : k61.K w x [.int .i64 x.f0, .int .i64 x.f1] := ⟨[.int .i64 x.f0], [.int .i64 x.f1], rfl, rfl, rfl⟩
theorem k61_mkM (w : World) (base : Nat) (ok : Nat → Prop) (x : S61)  : k61.M w base ok x [.int .i64 x.f0, .int .i64 x.f1] := ⟨[.int .i64 x.f0], [.int .i64 x.f1], rfl, rfl, rfl⟩
def rd_T61 (xs : List S61) (i : Int) : S61 := xs.getD i.toNat z61
theorem at_T61 {w : World} {A : Option Addr} {n : Nat} {xs : List S61} (h : Kd.C k61 w A n xs) (i : Int) (h0 : 0 ≤ i) (h1 : i < n) : ∃ ad , A = some ad ∧ w.cell? (ad.add (i.toNat * 2)) = some (.int .i64 (rd_T61 xs i).f0) ∧ w.cell? ⟨(ad.add (i.toNat * 2)).block, (ad.add (i.toNat * 2)).off + 1, none⟩ = some (.int .i64 (rd_T61 xs i).f1) := by
  obtain ⟨ad, c, e, _, hK, hc0⟩ := Kd.C_get h z61 i h0 h1
  have hc : ∀ j u, c[j]? = some u → w.cell? (ad.add (i.toNat * 2 + j)) = some u := hc0
  obtain rfl := k61_open hK
  exact ⟨ad, e, hc 0 _ rfl, by rw [← add_field _ _ 1 (by omega)]; exact hc 1 _ rfl⟩

def rd_L6 (xs : List (List Int)) (i : Int) : (List Int) := xs.getD i.toNat ([] : List Int)
theorem at_L6 {w : World} {A : Option Addr} {n : Nat} {xs : List (List Int)} (h : Kd.C (Kd.slice 5 (Kd.int .u8)) w A n xs) (i : Int) (h0 : 0 ≤ i) (h1 : i < n) : ∃ ad A0 c0, A = some ad ∧ w.cell? (ad.add i.toNat) = some (.slice A0 (rd_L6 xs i).length c0) ∧ (rd_L6 xs i).length ≤ c0 ∧ (Kd.int .u8).C w A0 (rd_L6 xs i).length (rd_L6 xs i) := by
  obtain ⟨ad, c, e, _, hK, hc0⟩ := Kd.C_get h ([] : List Int) i h0 h1
  have hc : ∀ j u, c[j]? = some u → w.cell? (ad.add (i.toNat * 1 + j)) = some u := hc0
  obtain ⟨A0, c0, rfl, l0, g0⟩ := hK
  exact ⟨ad, A0, c0, e, by have hq := hc 0 _ rfl; rwa [Nat.mul_one, Nat.add_zero] at hq, l0, g0⟩

/-! #### struct type 74 -/
structure S74 where
  f0 : Int
  f1 : Int
  f2 : Int
  f3 : S61
  f4 : (List Int)
def z74 : S74 := ⟨(0 : Int), (0 : Int), (0 : Int), z61, ([] : List Int)⟩
def k74 : Kd S74 := Kd.iso (Kd.pair (Kd.int .i64) (Kd.pair (Kd.int .i64) (Kd.pair (Kd.int .u32) (Kd.pair k61 (Kd.slice 5 (Kd.int .u8)))))) (fun x : S74 => (x.f0, x.f1, x.f2, x.f3, x.f4))
theorem k74_open {w : World} {x : S74} {cs : List Value} (h : k74.K w x cs) : ∃ A5 c5, cs = [.int .i64 x.f0, .int .i64 x.f1, .int .u32 x.f2, .int .i64 x.f3.f0, .int .i64 x.f3.f1, .slice A5 x.f4.length c5] ∧ x.f4.length ≤ c5 ∧ (Kd.int .u8).C w A5 x.f4.length x.f4 := by
  obtain ⟨_, _, rfl, rfl, ⟨_, _, rfl, rfl, ⟨_, _, rfl, rfl, ⟨_, _, rfl, s3, ⟨A5, c5, rfl, l5, g5⟩⟩⟩⟩⟩ := h
  obtain rfl := k61_open s3
  exact ⟨A5, c5, rfl, l5, g5⟩
theorem k74_openM {w : World} {base : Nat} {ok : Nat → Prop} {x : S74} {cs : List Value} (h : k74.M w base ok x cs) : ∃ v5, cs = [.int .i64 x.f0, .int .i64 x.f1, .int .u32 x.f2, .int .i64 x.f3.f0, .int .i64 x.f3.f1, v5] ∧ (Kd.int .u8).R 5 w base ok v5 x.f4 := by
  obtain ⟨_, _, rfl, rfl, ⟨_, _, rfl, rfl, ⟨_, _, rfl, rfl, ⟨_, _, rfl, s3, ⟨v5, rfl, g5⟩⟩⟩⟩⟩ := h
  obtain rfl := k61_openM s3
  exact ⟨v5, rfl, g5⟩
theorem k74_mk (w : World) (x : S74) {A5 : Option Addr} {c5 : Nat} (l5 : x.f4.length ≤ c5) (g5 : (Kd.int .u8).C w A5 x.f4.length x.f4) : k74.K w x [.int .i64 x.f0, .int .i64 x.f1, .int .u32 x.f2, .int .i64 x.f3.f0, .int .i64 x.f3.f1, .slice A5 x.f4.length c5] := ⟨[.int .i64 x.f0], [.int .i64 x.f1, .int .u32 x.f2, .int .i64 x.f3.f0, .int .i64 x.f3.f1, .slice A5 x.f4.length c5], rfl, rfl, ⟨[.int .i64 x.f1], [.int .u32 x.f2, .int .i64 x.f3.f0, .int .i64 x.f3.f1, .slice A5 x.f4.length c5], rfl, rfl, ⟨[.int .u32 x.f2], [.int .i64 x.f3.f0, .int .i64 x.f3.f1, .slice A5 x.f4.length c5], rfl, rfl, ⟨[.int .i64 x.f3.f0, .int .i64 x.f3.f1], [.slice A5 x.f4.length c5], rfl, (k61_mk w x.f3 ), ⟨A5, c5, rfl, l5, g5⟩⟩⟩⟩⟩
theorem k74_mkM (w : World) (base : Nat) (ok : Nat → Prop) (x : S74) {v5 : Value} (g5 : (Kd.int .u8).R 5 w base ok v5 x.f4) : k74.M w base ok x [.int .i64 x.f0, .int .i64 x.f1, .int .u32 x.f2, .int .i64 x.f3.f0, .int .i64 x.f3.f1, v5] := ⟨[.int .i64 x.f0], [.int .i64 x.f1, .int .u32 x.f2, .int .i64 x.f3.f0, .int .i64 x.f3.f1, v5], rfl, rfl, ⟨[.int .i64 x.f1], [.int .u32 x.f2, .int .i64 x.f3.f0, .int .i64 x.f3.f1, v5], rfl, rfl, ⟨[.int .u32 x.f2], [.int .i64 x.f3.f0, .int .i64 x.f3.f1, v5], rfl, rfl, ⟨[.int .i64 x.f3.f0, .int .i64 x.f3.f1], [v5], rfl, (k61_mkM w base ok x.f3 ), ⟨v5, rfl, g5⟩⟩⟩⟩⟩
def rd_T74 (xs : List S74) (i : Int) : S74 := xs.getD i.toNat z74
theorem at_T74 {w : World} {A : Option Addr} {n : Nat} {xs : List S74} (h : Kd.C k74 w A n xs) (i : Int) (h0 : 0 ≤ i) (h1 : i < n) : ∃ ad A5 c5, A = some ad ∧ w.cell? (ad.add (i.toNat * 6)) = some (.int .i64 (rd_T74 xs i).f0) ∧ w.cell? ⟨(ad.add (i.toNat * 6)).block, (ad.add (i.toNat * 6)).off + 1, none⟩ = some (.int .i64 (rd_T74 xs i).f1) ∧ w.cell? ⟨(ad.add (i.toNat * 6)).block, (ad.add (i.toNat * 6)).off + 2, none⟩ = some (.int .u32 (rd_T74 xs i).f2) ∧ w.cell? ⟨(ad.add (i.toNat * 6)).block, (ad.add (i.toNat * 6)).off + 3, none⟩ = some (.int .i64 (rd_T74 xs i).f3.f0) ∧ w.cell? ⟨(ad.add (i.toNat * 6)).block, (ad.add (i.toNat * 6)).off + 4, none⟩ = some (.int .i64 (rd_T74 xs i).f3.f1) ∧ w.cell? ⟨(ad.add (i.toNat * 6)).block, (ad.add (i.toNat * 6)).off + 5, none⟩ = some (.slice A5 (rd_T74 xs i).f4.length c5) ∧ (rd_T74 xs i).f4.length ≤ c5 ∧ (Kd.int .u8).C w A5 (rd_T74 xs i).f4.length (rd_T74 xs i).f4 := by
  obtain ⟨ad, c, e, _, hK, hc0⟩ := Kd.C_get h z74 i h0 h1
  have hc : ∀ j u, c[j]? = some u → w.cell? (ad.add (i.toNat * 6 + j)) = some u := hc0
  obtain ⟨A5, c5, rfl, l5, g5⟩ := k74_open hK
  exact ⟨ad, A5, c5, e, hc 0 _ rfl, by rw [← add_field _ _ 1 (by omega)]; exact hc 1 _ rfl, by rw [← add_field _ _ 2 (by omega)]; exact hc 2 _ rfl, by rw [← add_field _ _ 3 (by omega)]; exact hc 3 _ rfl, by rw [← add_field _ _ 4 (by omega)]; exact hc 4 _ rfl, by rw [← add_field _ _ 5 (by omega)]; exact hc 5 _ rfl, l5, g5⟩

end Go.Proofs.Ytbdfdfahpdilpaa.X12
