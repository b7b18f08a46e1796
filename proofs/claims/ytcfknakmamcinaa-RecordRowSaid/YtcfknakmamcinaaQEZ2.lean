import Derived.Test.YtcfknakmamcinaaProg
import Derived.Below
import Derived.Deep.Draws
import Derived.Deep.AppendLies
import Derived.Maps.AppendAt
import Derived.OwnWalk
import Derived.Laws.BytesArg
import Derived.Laws.MakeOwn
import Derived.Laws.OwnMore
import Derived.Deep.OwnRows
import Derived.Tactics
import Derived.Lib.ConvBytes
import Derived.Laws.Slices
import Derived.WalkKit
import Derived.KernelRfl
import Derived.RowKit3
import Derived.Deep.LoopGhost
import Derived.Deep.QuietTactic
import Derived.BigQuiet
import Derived.WideLaws
import Derived.Deep.DeepCutAuto
import Derived.Deep.CutBlock
import Derived.Deep.RegionHeld3
import Derived.Laws.Rows
import Derived.Lib.AppendStr
import Derived.ArgAppend
import Derived.Laws.IdiomCopy
import Derived.OrdersHeld
import Derived.Laws.BitsLemmas
import Derived.RowKit
import Derived.Lib.BufferWrite
import Derived.Lib.SlBytesRow
import Derived.Maps.Keyed
import Derived.Laws.IdiomRangeMap
import Derived.Laws.AppendOwn
import Derived.WalkLawsBesides
import Derived.Lib.Builder
import Derived.Lib.UnsafeStr
import Derived.Laws.Externs
import Derived.RegionTactic
import Derived.Deep.RegionLaw
import Derived.Defers
import Derived.Recover
import Derived.Laws.IdiomStrings
import Derived.ProofKit
import Derived.OpenShut
import Derived.ChangeOld
import Derived.SizedLaws
import Derived.Deep.Slices
import Derived.Deep.Fields
import Derived.ChangeSame
import Derived.Test.YtcfknakmamcinaaQEZ0
import Derived.Test.YtcfknakmamcinaaQEZ1
-- Written by this session's xprint.py (the kit's print, with contracts proved by hand).
namespace Go.Proofs.Ytcfknakmamcinaa.X4
open Go.RowKit Go.Proofs.YtcfknakmamcinaaW.PrintWords Go.Proofs.YtcfknakmamcinaaW.PrintLast Go.Proofs.YtcfknakmamcinaaW.PrintMore
attribute [local go_sem] max2_int min2_int max_two min_two max_three min_three max_four min_four   -- for this text's walks alone
set_option linter.unusedVariables false
set_option linter.unusedSimpArgs false
def errW : Option Int → Value
  | none => .nilIface
  | some c => .iface 0 (.int .i64 c)
theorem errW_none : errW none = .nilIface := rfl
theorem errW_some (c : Int) : errW (some c) = .iface 0 (.int .i64 c) := rfl
-- the values' own types
structure S66 where
  f0 : Int
  f1 : Int
  f2 : Int
def z66 : S66 := ⟨(0 : Int), (0 : Int), (0 : Int)⟩
def k66 : Kd S66 := Kd.iso (Kd.pair (Kd.int .i64) (Kd.pair (Kd.int .i64) (Kd.int .i64))) (fun x : S66 => (x.f0, x.f1, x.f2))
theorem k66_open {w : World} {x : S66} {cs : List Value} (h : k66.K w x cs) : cs = [.int .i64 x.f0, .int .i64 x.f1, .int .i64 x.f2] := by
  obtain ⟨_, _, rfl, rfl, ⟨_, _, rfl, rfl, rfl⟩⟩ := h
  exact rfl
theorem k66_mkM (w : World) (base : Nat) (ok : Nat → Prop) (x : S66)  : k66.M w base ok x [.int .i64 x.f0, .int .i64 x.f1, .int .i64 x.f2] := ⟨[.int .i64 x.f0], [.int .i64 x.f1, .int .i64 x.f2], rfl, rfl, ⟨[.int .i64 x.f1], [.int .i64 x.f2], rfl, rfl, rfl⟩⟩
def rd_T66 (xs : List S66) (i : Int) : S66 := xs.getD i.toNat z66
theorem at_T66 {w : World} {A : Option Addr} {n : Nat} {xs : List S66} (h : Kd.C k66 w A n xs) (i : Int) (h0 : 0 ≤ i) (h1 : i < n) : ∃ ad , A = some ad ∧ w.cell? (ad.add (i.toNat * 3)) = some (.int .i64 (rd_T66 xs i).f0) ∧ w.cell? ⟨(ad.add (i.toNat * 3)).block, (ad.add (i.toNat * 3)).off + 1, none⟩ = some (.int .i64 (rd_T66 xs i).f1) ∧ w.cell? ⟨(ad.add (i.toNat * 3)).block, (ad.add (i.toNat * 3)).off + 2, none⟩ = some (.int .i64 (rd_T66 xs i).f2) := by
  obtain ⟨ad, c, e, _, hK, hc0⟩ := Kd.C_get h z66 i h0 h1
  have hc : ∀ j u, c[j]? = some u → w.cell? (ad.add (i.toNat * 3 + j)) = some u := hc0
  obtain rfl := k66_open hK
  exact ⟨ad, e, hc 0 _ rfl, by rw [← add_field _ _ 1 (by omega)]; exact hc 1 _ rfl, by rw [← add_field _ _ 2 (by omega)]; exact hc 2 _ rfl⟩
structure S68 where
  f0 : Int
  f1 : Int
def z68 : S68 := ⟨(0 : Int), (0 : Int)⟩
def k68 : Kd S68 := Kd.iso (Kd.pair (Kd.int .i64) (Kd.int .i64)) (fun x : S68 => (x.f0, x.f1))
theorem k68_open {w : World} {x : S68} {cs : List Value} (h : k68.K w x cs) : cs = [.int .i64 x.f0, .int .i64 x.f1] := by
  obtain ⟨_, _, rfl, rfl, rfl⟩ := h
  exact rfl
theorem k68_mkM (w : World) (base : Nat) (ok : Nat → Prop) (x : S68)  : k68.M w base ok x [.int .i64 x.f0, .int .i64 x.f1] := ⟨[.int .i64 x.f0], [.int .i64 x.f1], rfl, rfl, rfl⟩
def rd_T68 (xs : List S68) (i : Int) : S68 := xs.getD i.toNat z68
theorem at_T68 {w : World} {A : Option Addr} {n : Nat} {xs : List S68} (h : Kd.C k68 w A n xs) (i : Int) (h0 : 0 ≤ i) (h1 : i < n) : ∃ ad , A = some ad ∧ w.cell? (ad.add (i.toNat * 2)) = some (.int .i64 (rd_T68 xs i).f0) ∧ w.cell? ⟨(ad.add (i.toNat * 2)).block, (ad.add (i.toNat * 2)).off + 1, none⟩ = some (.int .i64 (rd_T68 xs i).f1) := by
  obtain ⟨ad, c, e, _, hK, hc0⟩ := Kd.C_get h z68 i h0 h1
  have hc : ∀ j u, c[j]? = some u → w.cell? (ad.add (i.toNat * 2 + j)) = some u := hc0
  obtain rfl := k68_open hK
  exact ⟨ad, e, hc 0 _ rfl, by rw [← add_field _ _ 1 (by omega)]; exact hc 1 _ rfl⟩
structure S25 where
  f0 : Int
  f1 : Int
  f2 : Int
  f3 : Int
  f4 : Int
  f5 : Int
  f6 : Int
  f7 : ByteArray
  f8 : ByteArray
  f9 : (List S66)
  f10 : (List S68)
def z25 : S25 := ⟨(0 : Int), (0 : Int), (0 : Int), (0 : Int), (0 : Int), (0 : Int), (0 : Int), (⟨#[]⟩ : ByteArray), (⟨#[]⟩ : ByteArray), ([] : List S66), ([] : List S68)⟩
def k25 : Kd S25 := Kd.iso (Kd.pair (Kd.int .i64) (Kd.pair (Kd.int .i64) (Kd.pair (Kd.int .i64) (Kd.pair (Kd.int .i64) (Kd.pair (Kd.int .i64) (Kd.pair (Kd.int .i64) (Kd.pair (Kd.int .i64) (Kd.pair Kd.string (Kd.pair Kd.string (Kd.pair (Kd.slice 66 k66) (Kd.slice 68 k68))))))))))) (fun x : S25 => (x.f0, x.f1, x.f2, x.f3, x.f4, x.f5, x.f6, x.f7, x.f8, x.f9, x.f10))
theorem k25_open {w : World} {x : S25} {cs : List Value} (h : k25.K w x cs) : ∃ A9 c9 A10 c10, cs = [.int .i64 x.f0, .int .i64 x.f1, .int .i64 x.f2, .int .i64 x.f3, .int .i64 x.f4, .int .i64 x.f5, .int .i64 x.f6, .string x.f7, .string x.f8, .slice A9 x.f9.length c9, .slice A10 x.f10.length c10] ∧ x.f9.length ≤ c9 ∧ k66.C w A9 x.f9.length x.f9 ∧ x.f10.length ≤ c10 ∧ k68.C w A10 x.f10.length x.f10 := by
  obtain ⟨_, _, rfl, rfl, ⟨_, _, rfl, rfl, ⟨_, _, rfl, rfl, ⟨_, _, rfl, rfl, ⟨_, _, rfl, rfl, ⟨_, _, rfl, rfl, ⟨_, _, rfl, rfl, ⟨_, _, rfl, rfl, ⟨_, _, rfl, rfl, ⟨_, _, rfl, ⟨A9, c9, rfl, l9, g9⟩, ⟨A10, c10, rfl, l10, g10⟩⟩⟩⟩⟩⟩⟩⟩⟩⟩⟩ := h
  exact ⟨A9, c9, A10, c10, rfl, l9, g9, l10, g10⟩
theorem k25_mk (w : World) (x : S25) {A9 : Option Addr} {c9 : Nat} (l9 : x.f9.length ≤ c9) (g9 : k66.C w A9 x.f9.length x.f9) {A10 : Option Addr} {c10 : Nat} (l10 : x.f10.length ≤ c10) (g10 : k68.C w A10 x.f10.length x.f10) : k25.K w x [.int .i64 x.f0, .int .i64 x.f1, .int .i64 x.f2, .int .i64 x.f3, .int .i64 x.f4, .int .i64 x.f5, .int .i64 x.f6, .string x.f7, .string x.f8, .slice A9 x.f9.length c9, .slice A10 x.f10.length c10] := ⟨[.int .i64 x.f0], [.int .i64 x.f1, .int .i64 x.f2, .int .i64 x.f3, .int .i64 x.f4, .int .i64 x.f5, .int .i64 x.f6, .string x.f7, .string x.f8, .slice A9 x.f9.length c9, .slice A10 x.f10.length c10], rfl, rfl, ⟨[.int .i64 x.f1], [.int .i64 x.f2, .int .i64 x.f3, .int .i64 x.f4, .int .i64 x.f5, .int .i64 x.f6, .string x.f7, .string x.f8, .slice A9 x.f9.length c9, .slice A10 x.f10.length c10], rfl, rfl, ⟨[.int .i64 x.f2], [.int .i64 x.f3, .int .i64 x.f4, .int .i64 x.f5, .int .i64 x.f6, .string x.f7, .string x.f8, .slice A9 x.f9.length c9, .slice A10 x.f10.length c10], rfl, rfl, ⟨[.int .i64 x.f3], [.int .i64 x.f4, .int .i64 x.f5, .int .i64 x.f6, .string x.f7, .string x.f8, .slice A9 x.f9.length c9, .slice A10 x.f10.length c10], rfl, rfl, ⟨[.int .i64 x.f4], [.int .i64 x.f5, .int .i64 x.f6, .string x.f7, .string x.f8, .slice A9 x.f9.length c9, .slice A10 x.f10.length c10], rfl, rfl, ⟨[.int .i64 x.f5], [.int .i64 x.f6, .string x.f7, .string x.f8, .slice A9 x.f9.length c9, .slice A10 x.f10.length c10], rfl, rfl, ⟨[.int .i64 x.f6], [.string x.f7, .string x.f8, .slice A9 x.f9.length c9, .slice A10 x.f10.length c10], rfl, rfl, ⟨[.string x.f7], [.string x.f8, .slice A9 x.f9.length c9, .slice A10 x.f10.length c10], rfl, rfl, ⟨[.string x.f8], [.slice A9 x.f9.length c9, .slice A10 x.f10.length c10], rfl, rfl, ⟨[.slice A9 x.f9.length c9], [.slice A10 x.f10.length c10], rfl, ⟨A9, c9, rfl, l9, g9⟩, ⟨A10, c10, rfl, l10, g10⟩⟩⟩⟩⟩⟩⟩⟩⟩⟩⟩
theorem k25_mkM (w : World) (base : Nat) (ok : Nat → Prop) (x : S25) {v9 : Value} (g9 : k66.R 66 w base ok v9 x.f9) {v10 : Value} (g10 : k68.R 68 w base ok v10 x.f10) : k25.M w base ok x [.int .i64 x.f0, .int .i64 x.f1, .int .i64 x.f2, .int .i64 x.f3, .int .i64 x.f4, .int .i64 x.f5, .int .i64 x.f6, .string x.f7, .string x.f8, v9, v10] := ⟨[.int .i64 x.f0], [.int .i64 x.f1, .int .i64 x.f2, .int .i64 x.f3, .int .i64 x.f4, .int .i64 x.f5, .int .i64 x.f6, .string x.f7, .string x.f8, v9, v10], rfl, rfl, ⟨[.int .i64 x.f1], [.int .i64 x.f2, .int .i64 x.f3, .int .i64 x.f4, .int .i64 x.f5, .int .i64 x.f6, .string x.f7, .string x.f8, v9, v10], rfl, rfl, ⟨[.int .i64 x.f2], [.int .i64 x.f3, .int .i64 x.f4, .int .i64 x.f5, .int .i64 x.f6, .string x.f7, .string x.f8, v9, v10], rfl, rfl, ⟨[.int .i64 x.f3], [.int .i64 x.f4, .int .i64 x.f5, .int .i64 x.f6, .string x.f7, .string x.f8, v9, v10], rfl, rfl, ⟨[.int .i64 x.f4], [.int .i64 x.f5, .int .i64 x.f6, .string x.f7, .string x.f8, v9, v10], rfl, rfl, ⟨[.int .i64 x.f5], [.int .i64 x.f6, .string x.f7, .string x.f8, v9, v10], rfl, rfl, ⟨[.int .i64 x.f6], [.string x.f7, .string x.f8, v9, v10], rfl, rfl, ⟨[.string x.f7], [.string x.f8, v9, v10], rfl, rfl, ⟨[.string x.f8], [v9, v10], rfl, rfl, ⟨[v9], [v10], rfl, ⟨v9, rfl, g9⟩, ⟨v10, rfl, g10⟩⟩⟩⟩⟩⟩⟩⟩⟩⟩⟩
def rd_T25 (xs : List S25) (i : Int) : S25 := xs.getD i.toNat z25
theorem at_T25 {w : World} {A : Option Addr} {n : Nat} {xs : List S25} (h : Kd.C k25 w A n xs) (i : Int) (h0 : 0 ≤ i) (h1 : i < n) : ∃ ad A9 c9 A10 c10, A = some ad ∧ w.cell? (ad.add (i.toNat * 11)) = some (.int .i64 (rd_T25 xs i).f0) ∧ w.cell? ⟨(ad.add (i.toNat * 11)).block, (ad.add (i.toNat * 11)).off + 1, none⟩ = some (.int .i64 (rd_T25 xs i).f1) ∧ w.cell? ⟨(ad.add (i.toNat * 11)).block, (ad.add (i.toNat * 11)).off + 2, none⟩ = some (.int .i64 (rd_T25 xs i).f2) ∧ w.cell? ⟨(ad.add (i.toNat * 11)).block, (ad.add (i.toNat * 11)).off + 3, none⟩ = some (.int .i64 (rd_T25 xs i).f3) ∧ w.cell? ⟨(ad.add (i.toNat * 11)).block, (ad.add (i.toNat * 11)).off + 4, none⟩ = some (.int .i64 (rd_T25 xs i).f4) ∧ w.cell? ⟨(ad.add (i.toNat * 11)).block, (ad.add (i.toNat * 11)).off + 5, none⟩ = some (.int .i64 (rd_T25 xs i).f5) ∧ w.cell? ⟨(ad.add (i.toNat * 11)).block, (ad.add (i.toNat * 11)).off + 6, none⟩ = some (.int .i64 (rd_T25 xs i).f6) ∧ w.cell? ⟨(ad.add (i.toNat * 11)).block, (ad.add (i.toNat * 11)).off + 7, none⟩ = some (.string (rd_T25 xs i).f7) ∧ w.cell? ⟨(ad.add (i.toNat * 11)).block, (ad.add (i.toNat * 11)).off + 8, none⟩ = some (.string (rd_T25 xs i).f8) ∧ w.cell? ⟨(ad.add (i.toNat * 11)).block, (ad.add (i.toNat * 11)).off + 9, none⟩ = some (.slice A9 (rd_T25 xs i).f9.length c9) ∧ w.cell? ⟨(ad.add (i.toNat * 11)).block, (ad.add (i.toNat * 11)).off + 10, none⟩ = some (.slice A10 (rd_T25 xs i).f10.length c10) ∧ (rd_T25 xs i).f9.length ≤ c9 ∧ k66.C w A9 (rd_T25 xs i).f9.length (rd_T25 xs i).f9 ∧ (rd_T25 xs i).f10.length ≤ c10 ∧ k68.C w A10 (rd_T25 xs i).f10.length (rd_T25 xs i).f10 := by
  obtain ⟨ad, c, e, _, hK, hc0⟩ := Kd.C_get h z25 i h0 h1
  have hc : ∀ j u, c[j]? = some u → w.cell? (ad.add (i.toNat * 11 + j)) = some u := hc0
  obtain ⟨A9, c9, A10, c10, rfl, l9, g9, l10, g10⟩ := k25_open hK
  exact ⟨ad, A9, c9, A10, c10, e, hc 0 _ rfl, by rw [← add_field _ _ 1 (by omega)]; exact hc 1 _ rfl, by rw [← add_field _ _ 2 (by omega)]; exact hc 2 _ rfl, by rw [← add_field _ _ 3 (by omega)]; exact hc 3 _ rfl, by rw [← add_field _ _ 4 (by omega)]; exact hc 4 _ rfl, by rw [← add_field _ _ 5 (by omega)]; exact hc 5 _ rfl, by rw [← add_field _ _ 6 (by omega)]; exact hc 6 _ rfl, by rw [← add_field _ _ 7 (by omega)]; exact hc 7 _ rfl, by rw [← add_field _ _ 8 (by omega)]; exact hc 8 _ rfl, by rw [← add_field _ _ 9 (by omega)]; exact hc 9 _ rfl, by rw [← add_field _ _ 10 (by omega)]; exact hc 10 _ rfl, l9, g9, l10, g10⟩
structure S49 where
  f0 : Int
  f1 : S25
def z49 : S49 := ⟨(0 : Int), z25⟩
def k49 : Kd S49 := Kd.iso (Kd.pair (Kd.int .i64) k25) (fun x : S49 => (x.f0, x.f1))
theorem k49_open {w : World} {x : S49} {cs : List Value} (h : k49.K w x cs) : ∃ A10 c10 A11 c11, cs = [.int .i64 x.f0, .int .i64 x.f1.f0, .int .i64 x.f1.f1, .int .i64 x.f1.f2, .int .i64 x.f1.f3, .int .i64 x.f1.f4, .int .i64 x.f1.f5, .int .i64 x.f1.f6, .string x.f1.f7, .string x.f1.f8, .slice A10 x.f1.f9.length c10, .slice A11 x.f1.f10.length c11] ∧ x.f1.f9.length ≤ c10 ∧ k66.C w A10 x.f1.f9.length x.f1.f9 ∧ x.f1.f10.length ≤ c11 ∧ k68.C w A11 x.f1.f10.length x.f1.f10 := by
  obtain ⟨_, _, rfl, rfl, s1⟩ := h
  obtain ⟨A10, c10, A11, c11, rfl, l10, g10, l11, g11⟩ := k25_open s1
  exact ⟨A10, c10, A11, c11, rfl, l10, g10, l11, g11⟩
theorem k49_mk (w : World) (x : S49) {A10 : Option Addr} {c10 : Nat} (l10 : x.f1.f9.length ≤ c10) (g10 : k66.C w A10 x.f1.f9.length x.f1.f9) {A11 : Option Addr} {c11 : Nat} (l11 : x.f1.f10.length ≤ c11) (g11 : k68.C w A11 x.f1.f10.length x.f1.f10) : k49.K w x [.int .i64 x.f0, .int .i64 x.f1.f0, .int .i64 x.f1.f1, .int .i64 x.f1.f2, .int .i64 x.f1.f3, .int .i64 x.f1.f4, .int .i64 x.f1.f5, .int .i64 x.f1.f6, .string x.f1.f7, .string x.f1.f8, .slice A10 x.f1.f9.length c10, .slice A11 x.f1.f10.length c11] := ⟨[.int .i64 x.f0], [.int .i64 x.f1.f0, .int .i64 x.f1.f1, .int .i64 x.f1.f2, .int .i64 x.f1.f3, .int .i64 x.f1.f4, .int .i64 x.f1.f5, .int .i64 x.f1.f6, .string x.f1.f7, .string x.f1.f8, .slice A10 x.f1.f9.length c10, .slice A11 x.f1.f10.length c11], rfl, rfl, (k25_mk w x.f1 l10 g10 l11 g11)⟩
theorem k49_mkM (w : World) (base : Nat) (ok : Nat → Prop) (x : S49) {v10 : Value} (g10 : k66.R 66 w base ok v10 x.f1.f9) {v11 : Value} (g11 : k68.R 68 w base ok v11 x.f1.f10) : k49.M w base ok x [.int .i64 x.f0, .int .i64 x.f1.f0, .int .i64 x.f1.f1, .int .i64 x.f1.f2, .int .i64 x.f1.f3, .int .i64 x.f1.f4, .int .i64 x.f1.f5, .int .i64 x.f1.f6, .string x.f1.f7, .string x.f1.f8, v10, v11] := ⟨[.int .i64 x.f0], [.int .i64 x.f1.f0, .int .i64 x.f1.f1, .int .i64 x.f1.f2, .int .i64 x.f1.f3, .int .i64 x.f1.f4, .int .i64 x.f1.f5, .int .i64 x.f1.f6, .string x.f1.f7, .string x.f1.f8, v10, v11], rfl, rfl, (k25_mkM w base ok x.f1 g10 g11)⟩
def rd_T49 (xs : List S49) (i : Int) : S49 := xs.getD i.toNat z49
theorem at_T49 {w : World} {A : Option Addr} {n : Nat} {xs : List S49} (h : Kd.C k49 w A n xs) (i : Int) (h0 : 0 ≤ i) (h1 : i < n) : ∃ ad A10 c10 A11 c11, A = some ad ∧ w.cell? (ad.add (i.toNat * 12)) = some (.int .i64 (rd_T49 xs i).f0) ∧ w.cell? ⟨(ad.add (i.toNat * 12)).block, (ad.add (i.toNat * 12)).off + 1, none⟩ = some (.int .i64 (rd_T49 xs i).f1.f0) ∧ w.cell? ⟨(ad.add (i.toNat * 12)).block, (ad.add (i.toNat * 12)).off + 2, none⟩ = some (.int .i64 (rd_T49 xs i).f1.f1) ∧ w.cell? ⟨(ad.add (i.toNat * 12)).block, (ad.add (i.toNat * 12)).off + 3, none⟩ = some (.int .i64 (rd_T49 xs i).f1.f2) ∧ w.cell? ⟨(ad.add (i.toNat * 12)).block, (ad.add (i.toNat * 12)).off + 4, none⟩ = some (.int .i64 (rd_T49 xs i).f1.f3) ∧ w.cell? ⟨(ad.add (i.toNat * 12)).block, (ad.add (i.toNat * 12)).off + 5, none⟩ = some (.int .i64 (rd_T49 xs i).f1.f4) ∧ w.cell? ⟨(ad.add (i.toNat * 12)).block, (ad.add (i.toNat * 12)).off + 6, none⟩ = some (.int .i64 (rd_T49 xs i).f1.f5) ∧ w.cell? ⟨(ad.add (i.toNat * 12)).block, (ad.add (i.toNat * 12)).off + 7, none⟩ = some (.int .i64 (rd_T49 xs i).f1.f6) ∧ w.cell? ⟨(ad.add (i.toNat * 12)).block, (ad.add (i.toNat * 12)).off + 8, none⟩ = some (.string (rd_T49 xs i).f1.f7) ∧ w.cell? ⟨(ad.add (i.toNat * 12)).block, (ad.add (i.toNat * 12)).off + 9, none⟩ = some (.string (rd_T49 xs i).f1.f8) ∧ w.cell? ⟨(ad.add (i.toNat * 12)).block, (ad.add (i.toNat * 12)).off + 10, none⟩ = some (.slice A10 (rd_T49 xs i).f1.f9.length c10) ∧ w.cell? ⟨(ad.add (i.toNat * 12)).block, (ad.add (i.toNat * 12)).off + 11, none⟩ = some (.slice A11 (rd_T49 xs i).f1.f10.length c11) ∧ (rd_T49 xs i).f1.f9.length ≤ c10 ∧ k66.C w A10 (rd_T49 xs i).f1.f9.length (rd_T49 xs i).f1.f9 ∧ (rd_T49 xs i).f1.f10.length ≤ c11 ∧ k68.C w A11 (rd_T49 xs i).f1.f10.length (rd_T49 xs i).f1.f10 := by
  obtain ⟨ad, c, e, _, hK, hc0⟩ := Kd.C_get h z49 i h0 h1
  have hc : ∀ j u, c[j]? = some u → w.cell? (ad.add (i.toNat * 12 + j)) = some u := hc0
  obtain ⟨A10, c10, A11, c11, rfl, l10, g10, l11, g11⟩ := k49_open hK
  exact ⟨ad, A10, c10, A11, c11, e, hc 0 _ rfl, by rw [← add_field _ _ 1 (by omega)]; exact hc 1 _ rfl, by rw [← add_field _ _ 2 (by omega)]; exact hc 2 _ rfl, by rw [← add_field _ _ 3 (by omega)]; exact hc 3 _ rfl, by rw [← add_field _ _ 4 (by omega)]; exact hc 4 _ rfl, by rw [← add_field _ _ 5 (by omega)]; exact hc 5 _ rfl, by rw [← add_field _ _ 6 (by omega)]; exact hc 6 _ rfl, by rw [← add_field _ _ 7 (by omega)]; exact hc 7 _ rfl, by rw [← add_field _ _ 8 (by omega)]; exact hc 8 _ rfl, by rw [← add_field _ _ 9 (by omega)]; exact hc 9 _ rfl, by rw [← add_field _ _ 10 (by omega)]; exact hc 10 _ rfl, by rw [← add_field _ _ 11 (by omega)]; exact hc 11 _ rfl, l10, g10, l11, g11⟩
end Go.Proofs.Ytcfknakmamcinaa.X4
namespace Go.Proofs.Ytcfknakmamcinaa.Rp
open Go Go.Proofs.Ytcfknakmamcinaa.X4
def b8 (n : Int) : UInt8 := UInt8.ofNat (n % 256).toNat
theorem b8_nat (n : Int) : ((b8 n).toNat : Int) = n % 256 := by
  unfold b8
  rw [UInt8.toNat_ofNat']
  omega
def four (n : Int) : List UInt8 := [b8 (n / 16777216), b8 (n / 65536), b8 (n / 256), b8 n]
def isNum (n : Int) : Bool := decide (0 ≤ n) && decide (n ≤ 2147483647)
theorem isNum_iff (n : Int) : isNum n = true ↔ 0 ≤ n ∧ n ≤ 2147483647 := by simp [isNum]
def numP (l : List Int) : Option (List UInt8) := if l.all isNum then some (l.flatMap four) else none
def smallP (n m : Int) : Option (List UInt8) := if 0 ≤ n ∧ n ≤ m then some [b8 n] else none
def txnP (n : Int) : Option (List UInt8) := if 1 ≤ n then numP [n] else none
def cat (a b : Option (List UInt8)) : Option (List UInt8) := a.bind fun x => b.map (x ++ ·)
theorem cat_none (a : Option (List UInt8)) : cat a none = none := by cases a <;> rfl
def placeP (p o n : Int) : Option (List UInt8) := if 1 ≤ n then cat (smallP p 7) (cat (smallP o (220 - min n 220)) (smallP n 16)) else none
theorem small_len {n m : Int} {bs : List UInt8} (h : smallP n m = some bs) : bs.length = 1 := by
  unfold smallP at h
  split at h
  · cases h; rfl
  · cases h
end Go.Proofs.Ytcfknakmamcinaa.Rp
namespace Go.Proofs.Ytcfknakmamcinaa.Rp
open Go Go.Proofs.Ytcfknakmamcinaa.X4
def joinP : List (Option (List UInt8)) → Option (List UInt8)
  | [] => some []
  | a :: t => cat a (joinP t)
theorem join_append (a b : List (Option (List UInt8))) : joinP (a ++ b) = cat (joinP a) (joinP b) := by
  induction a with
  | nil => cases h : joinP b <;> simp [joinP, cat, h]
  | cons x t ih =>
    simp only [List.cons_append, joinP, ih]
    cases x <;> cases joinP t <;> cases joinP b <;> simp [cat]
theorem join_none {α : Type} {f : α → Option (List UInt8)} {xs : List α} {k : Nat} {x : α} (h : xs[k]? = some x) (hn : f x = none) : joinP (xs.map f) = none := by
  induction xs generalizing k with
  | nil => simp at h
  | cons y t ih =>
    cases k with
    | zero =>
      simp at h
      subst h
      simp only [List.map_cons, joinP, hn]
      rfl
    | succ k =>
      simp at h
      simp only [List.map_cons, joinP, ih h]
      exact cat_none _
theorem join_succ {α : Type} {f : α → Option (List UInt8)} {xs : List α} {k : Nat} {x : α} {bs b : List UInt8} (h : xs[k]? = some x) (h1 : joinP ((xs.take k).map f) = some bs) (h2 : f x = some b) : joinP ((xs.take (k + 1)).map f) = some (bs ++ b) := by
  rw [List.take_add_one, h, List.map_append, join_append, h1]
  simp [joinP, h2, cat]
def rowT (x : S66) : Option (List UInt8) := cat (txnP x.f0) (numP [x.f1, x.f2])
def rowQ (x : S68) : Option (List UInt8) := cat (smallP x.f0 7) (numP [x.f1])
def tablesP (r : S25) : Option (List UInt8) := cat (numP [r.f6]) (cat (smallP r.f9.length 4) (cat (joinP (r.f9.map rowT)) (cat (smallP r.f10.length 8) (joinP (r.f10.map rowQ)))))
theorem num_len {xs : List Int} {bs : List UInt8} (h : numP xs = some bs) : bs.length = 4 * xs.length := by
  unfold numP at h
  split at h
  · cases h
    have key : ∀ ys : List Int, (ys.flatMap four).length = 4 * ys.length := fun ys => by
      induction ys with
      | nil => rfl
      | cons x t ih => rw [List.flatMap_cons, List.length_append, ih]; simp [four]; omega
    exact key xs
  · cases h
theorem txn_len {n : Int} {bs : List UInt8} (h : txnP n = some bs) : bs.length = 4 := by
  unfold txnP at h
  split at h
  · exact num_len h
  · cases h
theorem small_le {n m : Int} {bs : List UInt8} (h : smallP n m = some bs) : 0 ≤ n ∧ n ≤ m := by
  unfold smallP at h
  split at h
  · assumption
  · cases h
end Go.Proofs.Ytcfknakmamcinaa.Rp
namespace Go.Proofs.Ytcfknakmamcinaa.Rp
open Go Go.Proofs.Ytcfknakmamcinaa.X4
def bodyP (r : S25) : Option (List UInt8) :=
  if r.f0 = 1 then cat (txnP r.f1) (cat (numP [r.f4]) (cat (placeP r.f2 r.f3 r.f8.size) (if r.f7.size = r.f8.size then some (r.f7.data.toList ++ r.f8.data.toList) else none)))
  else if r.f0 = 2 then cat (txnP r.f1) (cat (numP [r.f4, r.f5]) (cat (placeP r.f2 r.f3 r.f8.size) (some r.f8.data.toList)))
  else if r.f0 = 3 ∨ r.f0 = 4 then cat (txnP r.f1) (numP [r.f4])
  else if r.f0 = 5 then some []
  else if r.f0 = 6 then tablesP r
  else none
def recP (r : S25) : Option (List UInt8) := cat (smallP r.f0 6) (bodyP r)
def ownR (r : S25) : S25 :=
  if r.f0 = 1 then ⟨1, r.f1, r.f2, r.f3, r.f4, 0, 0, r.f7, r.f8, [], []⟩
  else if r.f0 = 2 then ⟨2, r.f1, r.f2, r.f3, r.f4, r.f5, 0, ⟨#[]⟩, r.f8, [], []⟩
  else if r.f0 = 3 ∨ r.f0 = 4 then ⟨r.f0, r.f1, 0, 0, r.f4, 0, 0, ⟨#[]⟩, ⟨#[]⟩, [], []⟩
  else if r.f0 = 6 then ⟨6, 0, 0, 0, 0, 0, r.f6, ⟨#[]⟩, ⟨#[]⟩, r.f9, r.f10⟩
  else ⟨r.f0, 0, 0, 0, 0, 0, 0, ⟨#[]⟩, ⟨#[]⟩, [], []⟩
theorem place_len {p o n : Int} {bs : List UInt8} (h : placeP p o n = some bs) : bs.length = 3 ∧ 1 ≤ n ∧ n ≤ 16 := by
  unfold placeP at h
  split at h
  · cases h1 : smallP p 7 with
    | none => rw [h1] at h; cases h
    | some a =>
      cases h2 : smallP o (220 - min n 220) with
      | none => rw [h1, h2] at h; cases h
      | some b =>
        cases h3 : smallP n 16 with
        | none => rw [h1, h2, h3] at h; cases h
        | some c =>
          rw [h1, h2, h3] at h
          cases h
          refine ⟨?_, by assumption, (small_le h3).2⟩
          rw [List.length_append, List.length_append, small_len h1, small_len h2, small_len h3]
  · cases h
end Go.Proofs.Ytcfknakmamcinaa.Rp
namespace Go.Proofs.Ytcfknakmamcinaa.Rp
open Go Go.RowKit Go.Proofs.Ytcfknakmamcinaa.X4
set_option linter.unusedSimpArgs false
instance dec66 : DecidableEq S66 := fun a b => if h : a.f0 = b.f0 ∧ a.f1 = b.f1 ∧ a.f2 = b.f2 then isTrue (by cases a; cases b; simp_all) else isFalse (fun e => h (by subst e; simp))
instance dec68 : DecidableEq S68 := fun a b => if h : a.f0 = b.f0 ∧ a.f1 = b.f1 then isTrue (by cases a; cases b; simp_all) else isFalse (fun e => h (by subst e; simp))
instance dec25 : DecidableEq S25 := fun a b => if h : (a.f0 = b.f0 ∧ a.f1 = b.f1 ∧ a.f2 = b.f2 ∧ a.f3 = b.f3) ∧ (a.f4 = b.f4 ∧ a.f5 = b.f5 ∧ a.f6 = b.f6) ∧ (a.f7 = b.f7 ∧ a.f8 = b.f8) ∧ a.f9 = b.f9 ∧ a.f10 = b.f10 then isTrue (by cases a; cases b; simp_all) else isFalse (fun e => h (by subst e; simp))
theorem loop_bl (s : ByteArray) : ∀ (d i : Nat) (r : List UInt8), i + d = s.size → ByteArray.toList.loop s i r = r.reverse ++ (s.data.toList).drop i := by
  intro d
  induction d with
  | zero =>
    intro i r h
    rw [ByteArray.toList.loop, if_neg (by omega), List.drop_of_length_le (by rw [Array.length_toList]; exact Nat.le_of_eq (by show s.size = i; omega)), List.append_nil]
  | succ d ih =>
    intro i r h
    have hi : i < s.size := by omega
    have hl : i < (s.data.toList).length := by rw [Array.length_toList]; exact hi
    rw [ByteArray.toList.loop, if_pos hi, ih (i + 1) _ (by omega), List.drop_eq_getElem_cons hl, List.reverse_cons, List.append_assoc]
    have e : s.get! i = (s.data.toList)[i] := by
      show s.data[i]! = s.data.toList[i]
      have hd : i < s.data.size := hi
      rw [getElem!_pos s.data i hd]
      exact (Array.getElem_toList hd).symm
    rw [e]
    rfl
theorem toList_bl (s : ByteArray) : s.toList = s.data.toList := by
  show ByteArray.toList.loop s 0 [] = _
  rw [loop_bl s s.size 0 [] (by omega)]
  rfl
theorem toList_eq (a b : ByteArray) : a.toList = b.toList ↔ a = b := by
  constructor
  · intro h
    rw [toList_bl, toList_bl] at h
    cases a; cases b
    simp at h
    rw [h]
  · rintro rfl; rfl
/-- What Print says. -/
def printF (r : S25) : ByteArray × Int := match recP r with
  | none => (⟨#[]⟩, 1)
  | some bs => if ownR r = r then (⟨bs.toArray⟩, 0) else (⟨#[]⟩, 1)
theorem rec_ne {r : S25} {bs : List UInt8} (h : recP r = some bs) : bs ≠ [] := by
  unfold recP at h
  intro e
  subst e
  cases h1 : smallP r.f0 6 with
  | none => rw [h1] at h; cases h
  | some a =>
    have := small_len h1
    cases h2 : bodyP r with
    | none => rw [h1, h2] at h; cases h
    | some c =>
      rw [h1, h2] at h
      injection h with h
      have := congrArg List.length h
      simp at this
      simp [this.1] at *
theorem own_small {r : S25} {bs : List UInt8} (h : recP r = some bs) : (ownR r).f9.length ≤ 4 ∧ (ownR r).f10.length ≤ 8 := by
  by_cases h6 : r.f0 = 6
  · have e : recP r = cat (some [b8 r.f0]) (tablesP r) := by
      unfold recP bodyP
      rw [show smallP r.f0 6 = some [b8 r.f0] by unfold smallP; rw [if_pos (by omega)], if_neg (by omega), if_neg (by omega), if_neg (by omega), if_neg (by omega), if_pos h6]
    rw [e] at h
    have o : ownR r = ⟨6, 0, 0, 0, 0, 0, r.f6, ⟨#[]⟩, ⟨#[]⟩, r.f9, r.f10⟩ := by unfold ownR; rw [if_neg (by omega), if_neg (by omega), if_neg (by omega), if_pos h6]
    rw [o]
    unfold tablesP at h
    cases h1 : numP [r.f6] with
    | none => rw [h1] at h; cases h
    | some a =>
    cases h2 : smallP r.f9.length 4 with
    | none => rw [h1, h2] at h; cases h
    | some b =>
    cases h3 : joinP (r.f9.map rowT) with
    | none => rw [h1, h2, h3] at h; cases h
    | some c =>
    cases h4 : smallP r.f10.length 8 with
    | none => rw [h1, h2, h3, h4] at h; cases h
    | some d =>
      have := small_le h2
      have := small_le h4
      exact ⟨by simp only; omega, by simp only; omega⟩
  · have o : (ownR r).f9 = [] ∧ (ownR r).f10 = [] := by
      unfold ownR
      split
      · exact ⟨rfl, rfl⟩
      · split
        · exact ⟨rfl, rfl⟩
        · split
          · exact ⟨rfl, rfl⟩
          · exact ⟨rfl, rfl⟩
    rw [o.1, o.2]
    simp
end Go.Proofs.Ytcfknakmamcinaa.Rp
namespace Go.Proofs.Ytcfknakmamcinaa.Rp
open Go Go.RowKit Go.Proofs.YtcfknakmamcinaaW.PrintWords Go.Proofs.Ytcfknakmamcinaa.X4
set_option linter.unusedSimpArgs false
set_option linter.unusedVariables false
def spotB (r : S25) : Bool := decide (0 ≤ r.f2 ∧ r.f2 ≤ 7 ∧ 0 ≤ r.f3 ∧ r.f3 ≤ 220 ∧ 1 ≤ r.f8.size ∧ r.f8.size ≤ 16 ∧ r.f3 + r.f8.size ≤ 220)
def rowTB (x : S66) : Bool := decide (1 ≤ x.f0) && [x.f0, x.f1, x.f2].all isNum
def rowQB (x : S68) : Bool := decide (0 ≤ x.f0 ∧ x.f0 ≤ 7) && isNum x.f1
def mayB (r : S25) : Bool :=
  if r.f0 = 1 then decide (1 ≤ r.f1) && ([r.f1, r.f4].all isNum && (spotB r && (decide (r.f7.size = r.f8.size) && decide (r = ⟨1, r.f1, r.f2, r.f3, r.f4, 0, 0, r.f7, r.f8, [], []⟩))))
  else if r.f0 = 2 then decide (1 ≤ r.f1) && ([r.f1, r.f4, r.f5].all isNum && (spotB r && decide (r = ⟨2, r.f1, r.f2, r.f3, r.f4, r.f5, 0, ⟨#[]⟩, r.f8, [], []⟩)))
  else if r.f0 = 3 ∨ r.f0 = 4 then decide (1 ≤ r.f1) && ([r.f1, r.f4].all isNum && decide (r = ⟨r.f0, r.f1, 0, 0, r.f4, 0, 0, ⟨#[]⟩, ⟨#[]⟩, [], []⟩))
  else if r.f0 = 5 then decide (r = ⟨5, 0, 0, 0, 0, 0, 0, ⟨#[]⟩, ⟨#[]⟩, [], []⟩)
  else if r.f0 = 6 then [r.f6].all isNum && (decide (r.f9.length ≤ 4) && (decide (r.f10.length ≤ 8) && (decide (r = ⟨6, 0, 0, 0, 0, 0, r.f6, ⟨#[]⟩, ⟨#[]⟩, r.f9, r.f10⟩) && (r.f9.all rowTB && r.f10.all rowQB))))
  else false
end Go.Proofs.Ytcfknakmamcinaa.Rp
namespace Go.Proofs.Ytcfknakmamcinaa.Arr
open Go Go.RowKit Go.Proofs.YtcfknakmamcinaaW.PrintWords
/-- The cells of a string's bytes. -/
def row (s : ByteArray) : Array Value := (Lib.byteCells s.data.toList).toArray
/-- What stays: Below, from one world to the next. -/
theorem below_trans {w w1 w2 : World} (h : Below w.heap.size w w1) (k : Below w1.heap.size w1 w2) : Below w.heap.size w w2 := h.trans (k.mono h.size)
end Go.Proofs.Ytcfknakmamcinaa.Arr
namespace Go.Proofs.Ytcfknakmamcinaa.Mp
open Go Go.RowKit Go.MapKept Go.ChangeMaps Go.Proofs.Ytcfknakmamcinaa.Arr
set_option linter.unusedVariables false
set_option linter.unusedSimpArgs false
abbrev En := Int × ByteArray × Nat
def ent (p : En) : MapEntry := ⟨.int .i64 p.1, .string p.2.1, p.2.2⟩
def ents (L : List En) : Array MapEntry := (L.map ent).toArray
def getM : List En → Int → Option ByteArray
  | [], _ => none
  | p :: r, k => if k = p.1 then some p.2.1 else getM r k
/-- What a map's list is to be: no key twice, no stamp twice, all stamps below the clock. -/
structure MI (L : List En) (c : Nat) : Prop where
  keys : (L.map (·.1)).Nodup
  borns : (L.map (·.2.2)).Nodup
  below : ∀ p ∈ L, p.2.2 < c
theorem MI.nil (c : Nat) : MI [] c := ⟨List.nodup_nil, List.nodup_nil, fun _ h => by cases h⟩
theorem MI.push {L : List En} {c : Nat} (h : MI L c) {k : Int} (hk : ∀ p ∈ L, p.1 ≠ k) (v : ByteArray) : MI (L ++ [(k, v, c)]) (c + 1) := by
  refine ⟨?_, ?_, fun p hp => ?_⟩
  · rw [List.map_append]
    refine List.nodup_append.2 ⟨h.keys, by simp, ?_⟩
    intro a ha b hb
    obtain ⟨p, hp, rfl⟩ := List.mem_map.1 ha
    simp at hb
    subst hb
    exact hk p hp
  · rw [List.map_append]
    refine List.nodup_append.2 ⟨h.borns, by simp, ?_⟩
    intro a ha b hb
    obtain ⟨p, hp, rfl⟩ := List.mem_map.1 ha
    simp at hb
    subst hb
    have := h.below p hp
    omega
  · rcases List.mem_append.1 hp with hp | hp
    · have := h.below p hp; omega
    · simp at hp; subst hp; simp
theorem map_modify_same {α β : Type} (f : α → β) (g : α → α) : ∀ (l : List α) (i : Nat) (x : α), l[i]? = some x → f (g x) = f x → (l.modify i g).map f = l.map f
  | [], i, x, h, _ => by simp at h
  | y :: r, 0, x, h, e => by simp at h; subst h; simp [e]
  | y :: r, i + 1, x, h, e => by simp at h; simp [map_modify_same f g r i x h e]
theorem MI.set {L : List En} {c : Nat} (h : MI L c) {i : Nat} {k : Int} {v0 : ByteArray} {b : Nat} (hi : L[i]? = some (k, v0, b)) (v : ByteArray) : MI (L.modify i fun p => (k, v, p.2.2)) c := by
  have h1 := map_modify_same (fun p : En => p.1) (fun p => (k, v, p.2.2)) L i _ hi rfl
  have h2 := map_modify_same (fun p : En => p.2.2) (fun p => (k, v, p.2.2)) L i _ hi rfl
  refine ⟨by rw [h1]; exact h.keys, by rw [h2]; exact h.borns, fun p hp => ?_⟩
  have : p.2.2 ∈ (L.modify i fun p => (k, v, p.2.2)).map (·.2.2) := List.mem_map.2 ⟨p, hp, rfl⟩
  rw [h2] at this
  obtain ⟨q, hq, e⟩ := List.mem_map.1 this
  rw [← e]
  exact h.below q hq
/-- Block m is a map in which k has f k. -/
def MP (w : World) (m : Nat) (f : Int → Option ByteArray) : Prop := ∃ L c, w.heap[m]? = some (.map (ents L) c) ∧ MI L c ∧ ∀ k, getM L k = f k
theorem MP.lt {w : World} {m : Nat} {f : Int → Option ByteArray} (h : MP w m f) : m < w.heap.size := by
  obtain ⟨L, c, h, _⟩ := h
  rcases Nat.lt_or_ge m w.heap.size with h1 | h1
  · exact h1
  · simp [Array.getElem?_eq_none h1] at h
theorem MP.same {w w' : World} {m : Nat} {f : Int → Option ByteArray} (h : MP w m f) (e : w'.heap[m]? = w.heap[m]?) : MP w' m f := by
  obtain ⟨L, c, h1, h2, h3⟩ := h
  exact ⟨L, c, e.trans h1, h2, h3⟩
theorem MP.made (w : World) : MP (w.alloc (.map #[] 0)) w.heap.size (fun _ => none) := ⟨[], 0, heap_alloc_new w _, MI.nil 0, fun _ => rfl⟩
section
variable {P : Program} {w : World} {t k e : TypeId} {m : Nat} {f : Int → Option ByteArray}
end
end Go.Proofs.Ytcfknakmamcinaa.Mp
namespace Go.Proofs.Ytcfknakmamcinaa.Ow
open Go Go.RowKit Go.ChangeMaps Go.Proofs.Ytcfknakmamcinaa.Arr Go.Proofs.Ytcfknakmamcinaa.Mp
set_option linter.unusedVariables false
set_option linter.unusedSimpArgs false
/-- Nothing but blocks in S is touched. -/
structure FS (S : Nat → Prop) (w w' : World) : Prop where
  os : w'.os = w.os
  tape : w'.tape = w.tape
  output : w'.output = w.output
  size : w.heap.size ≤ w'.heap.size
  block : ∀ k, k < w.heap.size → ¬ S k → w'.heap[k]? = w.heap[k]?
theorem FS.refl (S : Nat → Prop) (w : World) : FS S w w := ⟨rfl, rfl, rfl, Nat.le_refl _, fun _ _ _ => rfl⟩
theorem FS.trans {S : Nat → Prop} {a b c : World} (h : FS S a b) (k : FS S b c) : FS S a c :=
  ⟨k.os.trans h.os, k.tape.trans h.tape, k.output.trans h.output, Nat.le_trans h.size k.size, fun i hi hn => (k.block i (Nat.lt_of_lt_of_le hi h.size) hn).trans (h.block i hi hn)⟩
/-- .. the second step may touch what is new behind the first's beginning, too. -/
theorem FS.step {S S2 : Nat → Prop} {a b c : World} (h : FS S a b) (k : FS S2 b c) (hs : ∀ i, S2 i → S i ∨ a.heap.size ≤ i) : FS S a c :=
  ⟨k.os.trans h.os, k.tape.trans h.tape, k.output.trans h.output, Nat.le_trans h.size k.size, fun i hi hn => (k.block i (Nat.lt_of_lt_of_le hi h.size) (fun e => (hs i e).elim hn (fun e2 => by omega))).trans (h.block i hi hn)⟩
theorem FS.below {S : Nat → Prop} {a b c : World} (h : FS S a b) (k : Below b.heap.size b c) : FS S a c :=
  h.step (S2 := fun _ => False) ⟨k.os, k.tape, k.output, k.size, fun i hi _ => k.block i hi⟩ (fun _ e => e.elim)
theorem FS.drew {S : Nat → Prop} {a b : World} (h : FS S a b) : FS S a b.drew := ⟨h.os, h.tape, h.output, h.size, h.block⟩
theorem FS.alloc {S : Nat → Prop} {a b : World} (h : FS S a b) (o : Obj) : FS S a (b.alloc o) :=
  h.below ((Below.refl _ _).alloc (Nat.le_refl _) _)
theorem FS.setCell {S : Nat → Prop} {a b : World} (h : FS S a b) {p : Addr} (hp : S p.block ∨ a.heap.size ≤ p.block) (v : Value) : FS S a (b.setCell p v) :=
  h.step (S2 := fun k => k = p.block) ⟨rfl, rfl, rfl, by simp [World.setCell], fun i _ hn => Below.heap_setCell b p v i hn⟩ (fun i e => by subst e; exact hp)
theorem FS.grown {S : Nat → Prop} {a b c : World} {row : Option Nat} (h : FS S a b) (hg : b.grownBy c row) (hr : ∀ k, row = some k → S k ∨ a.heap.size ≤ k) : FS S a c :=
  h.step (S2 := fun k => row = some k) ⟨hg.os, hg.tape, hg.output, hg.size, fun i hi hn => hg.block i hi (fun e => hn e.symm)⟩ (fun i e => hr i e)
theorem FS.of_below {B : Nat} {w w' : World} (h : Below B w w') : FS (B ≤ ·) w w' := ⟨h.os, h.tape, h.output, h.size, fun k _ hn => h.block k (by omega)⟩
theorem FS.to_below {w0 w w' : World} {S : Nat → Prop} (h0 : Below w0.heap.size w0 w) (h : FS S w w') (hS : ∀ k, S k → w0.heap.size ≤ k) : Below w0.heap.size w0 w' :=
  h0.trans ⟨h.os, h.tape, h.output, h.size, fun k hk => h.block k (Nat.lt_of_lt_of_le hk h0.size) (fun e => by have := hS k e; omega)⟩
theorem FS.mono {S S2 : Nat → Prop} {w w' : World} (h : FS S w w') (hs : ∀ k, k < w.heap.size → S k → S2 k) : FS S2 w w' := ⟨h.os, h.tape, h.output, h.size, fun k hk hn => h.block k hk (fun e => hn (hs k hk e))⟩
theorem FS.old {S : Nat → Prop} {w w' : World} (h : FS S w w') {k : Nat} {o : Obj} (hk : w.heap[k]? = some o) (hn : ¬ S k) : w'.heap[k]? = some o := by
  have hl : k < w.heap.size := by
    rcases Nat.lt_or_ge k w.heap.size with h1 | h1
    · exact h1
    · simp [Array.getElem?_eq_none h1] at hk
  exact (h.block k hl hn).trans hk
/-- A row of cells in a block of its own, that lies in S. -/
structure Ow (w : World) (S : Nat → Prop) (e : TypeId) (sz : Nat) (v : Value) (n : Nat) (xs : List Value) : Prop where
  own : w.ownsRow 0 e sz v n xs
  mem : ∀ k, v.ownBlock = some k → S k
theorem Ow.nil (w : World) (S : Nat → Prop) (e : TypeId) (sz : Nat) : Ow w S e sz (.slice none 0 0) 0 [] := ⟨World.ownsRow_nil w 0 e sz, fun _ h => by cases h⟩
theorem Ow.mono {w : World} {S S2 : Nat → Prop} {e : TypeId} {sz : Nat} {v : Value} {n : Nat} {xs : List Value} (h : Ow w S e sz v n xs) (hs : ∀ k, k < w.heap.size → S k → S2 k) : Ow w S2 e sz v n xs :=
  ⟨h.own, fun k hk => hs k (h.own.lt k hk).2 (h.mem k hk)⟩
theorem Ow.kept {w w' : World} {S S2 : Nat → Prop} {e : TypeId} {sz : Nat} {v : Value} {n : Nat} {xs : List Value} (h : Ow w S e sz v n xs) (hf : FS S2 w w') (hd : ∀ k, S k → ¬ S2 k) : Ow w' S e sz v n xs := by
  refine ⟨?_, h.mem⟩
  obtain ⟨hl, h1⟩ := h.own
  refine ⟨hl, ?_⟩
  rcases h1 with h1 | ⟨g, cap, cur, hv, hb, hg, r⟩
  · exact .inl h1
  · exact .inr ⟨g, cap, cur, hv, hb, hf.old hg (hd g (h.mem g (by rw [hv]; rfl))), r⟩
/-- .. if its own block is as it was. -/
theorem Ow.same {w w' : World} {S : Nat → Prop} {e : TypeId} {sz : Nat} {v : Value} {n : Nat} {xs : List Value} (h : Ow w S e sz v n xs) (hf : ∀ k, v.ownBlock = some k → w'.heap[k]? = w.heap[k]?) : Ow w' S e sz v n xs := by
  refine ⟨?_, h.mem⟩
  obtain ⟨hl, h1⟩ := h.own
  refine ⟨hl, ?_⟩
  rcases h1 with h1 | ⟨g, cap, cur, hv, hb, hg, r⟩
  · exact .inl h1
  · exact .inr ⟨g, cap, cur, hv, hb, (hf g (by rw [hv]; rfl)).trans hg, r⟩
/-- What a row is, opened. -/
theorem Ow.shape {w : World} {S : Nat → Prop} {e : TypeId} {sz : Nat} {v : Value} {n : Nat} {xs : List Value} (h : Ow w S e sz v n xs) : ∃ A c, v = .slice A n c ∧ n ≤ c ∧ c ≤ maxLen ∧ xs.length = n * sz := by
  obtain ⟨hl, h1⟩ := h.own
  rcases h1 with ⟨rfl, rfl⟩ | ⟨g, cap, cur, hv, hb, hg, h2, h3, h4, h5⟩
  · exact ⟨none, 0, rfl, Nat.le_refl _, by decide, hl⟩
  · exact ⟨some ⟨g, 0, none⟩, cap, hv, h2, h3, hl⟩
theorem Ow.open {w : World} {S : Nat → Prop} {e : TypeId} {sz : Nat} {v : Value} {n : Nat} {xs : List Value} (h : Ow w S e sz v n xs) (hn : 0 < n) : ∃ g c cur, v = .slice (some ⟨g, 0, none⟩) n c ∧ S g ∧ w.heap[g]? = some (.cells cur e (0, 0)) ∧ n ≤ c ∧ c ≤ maxLen ∧ cur.size = c * sz ∧ cur.toList.take (n * sz) = xs := by
  obtain ⟨hl, h1⟩ := h.own
  rcases h1 with ⟨rfl, rfl⟩ | ⟨g, cap, cur, hv, hb, hg, r⟩
  · omega
  · exact ⟨g, cap, cur, hv, h.mem g (by rw [hv]; rfl), hg, r⟩
/-- A cell of it is written. -/
theorem Ow.put {w : World} {S : Nat → Prop} {e : TypeId} {sz n c g : Nat} {xs : List Value} (h : Ow w S e sz (.slice (some ⟨g, 0, none⟩) n c) n xs) (j : Nat) (hj : j < n * sz) (u : Value) : Ow (w.setCell ⟨g, j, none⟩ u) S e sz (.slice (some ⟨g, 0, none⟩) n c) n (xs.set j u) := by
  refine ⟨?_, h.mem⟩
  obtain ⟨hl, h1⟩ := h.own
  refine ⟨by rw [List.length_set]; exact hl, ?_⟩
  rcases h1 with ⟨h1, _⟩ | ⟨g', cap, cur, hv, hb, hg, h2, h3, h4, h5⟩
  · cases h1
  · cases hv
    refine .inr ⟨g, c, cur.setIfInBounds j u, rfl, hb, ?_, h2, h3, by simpa using h4, ?_⟩
    · have hl2 : g < w.heap.size := by
        rcases Nat.lt_or_ge g w.heap.size with h1 | h1
        · exact h1
        · simp [Array.getElem?_eq_none h1] at hg
      simp only [World.setCell]
      rw [Array.getElem?_modify, if_pos rfl, hg]
      rfl
    · rw [Array.toList_setIfInBounds, List.take_set, h5]
/-- 'append(v, x...)': in the block that there is, or in a new one. -/
theorem run_append_ow {P : Program} {w : World} {S : Nat → Prop} (t ty e : TypeId) (i : TypeInfo) (z : Value) (size bytes : Nat) (ht : P.underlying t = some (.slice e)) (hi : P.info? e = some i) (hz : i.zero = some z)
    (hsize : i.size = size) (hby : i.bytes = bytes) (hzs : z.cells.size = size) (hsz : 0 < size)
    (v : Value) (n : Nat) (xs : List Value) (h : Ow w S e size v n xs)
    (a : Addr) (m c : Nat) (news : List Value) (hl : news.length = m * size) (hnews : ∀ j u, news[j]? = some u → w.cell? (a.add j) = some u) (h1 : ∀ u ∈ news, u.oneCell' = true)
    (h63 : n + m ≤ maxLen) (hbytes : (n + m) * bytes ≤ 140737488355328) (hm : 0 < m) :
    ∃ v' w', (Builtin.append_ #[t, t] ty #[v, .slice (some a) m c]).run P w = .ok v' w' ∧ Ow w' (fun k => S k ∨ k = w.heap.size) e size v' (n + m) (xs ++ news) ∧ w.grownBy w' v.ownBlock ∧ (v'.ownBlock = v.ownBlock ∨ v'.ownBlock = some w.heap.size) ∧ ∃ g' c', v' = .slice (some ⟨g', 0, none⟩) (n + m) c' := by
  obtain ⟨v', w', hr, ho, hg, _⟩ := run_append_own w 0 t ty e i z size bytes ht hi hz hsize hby hzs hsz v n xs h.own a m c news hl hnews h1 h63 hbytes (Nat.zero_le _)
  have key : (v'.ownBlock = v.ownBlock ∨ v'.ownBlock = some w.heap.size) ∧ ∃ g' c', v' = .slice (some ⟨g', 0, none⟩) (n + m) c' := by
    subst hsize
    subst hby
    have hsmall : n + m ≤ 9223372036854775807 := by simp only [maxLen] at h63; omega
    rcases h.own.2 with ⟨rfl, rfl⟩ | ⟨g, cap, cur, rfl, hbg, hgc, hnc, hcm, hcs, htake⟩
    · have hr2 := run_append_nil (P := P) w t ty e i z ht hi hz a m c news hl hnews (by omega) (by omega) (by have hb := hbytes; simp only [Nat.zero_add] at hb; omega)
      rw [hr] at hr2
      injection hr2 with e1 e2
      rw [e1, Nat.zero_add]
      exact ⟨.inr rfl, _, _, rfl⟩
    · by_cases hroom : n + m ≤ cap
      · have hfit : n * i.size + news.length ≤ cur.size := by rw [hl, hcs, ← Nat.add_mul]; exact Nat.mul_le_mul_right _ hroom
        have hr2 := run_append_room (P := P) w t ty e i ht hi g n cap cur hgc a m c news hl hnews h1 hroom hfit
        rw [hr] at hr2
        injection hr2 with e1 e2
        rw [e1]
        exact ⟨.inl rfl, _, _, rfl⟩
      · have holds : ∀ j u, xs[j]? = some u → w.cell? ((⟨g, 0, none⟩ : Addr).add j) = some u := h.own.cells (g := g) rfl
        have hr2 := run_append_grow (P := P) w t ty e i z ht hi hz ⟨g, 0, none⟩ n cap xs h.own.1 holds a m c news hl hnews (by omega) (by omega) (growslice_fits (by omega) hbytes)
        rw [hr] at hr2
        injection hr2 with e1 e2
        rw [e1]
        exact ⟨.inr rfl, _, _, rfl⟩
  refine ⟨v', w', hr, ⟨ho, fun k hk => ?_⟩, hg, key⟩
  rcases key.1 with e1 | e1
  · exact .inl (h.mem k (e1 ▸ hk))
  · rw [e1] at hk
    exact .inr (by injection hk with hk; exact hk.symm)
/-- 'append' at the operation, its run known. -/
theorem ev_append {P : Program} {ops : Array Oper} {rest : List Oper} {o : Oper} {a : Act} {Q : Exit → Act → World → Prop} {W w1 : World} {v : Value} (s x : Operand) (t : TypeId) (hgd : o.guard = none)
    (ho : o.op = .call { callee := .builtin .append, args := #[s, x], argTypes := #[t, t] }) (v1 v2 : Value) (hs : a.eval s = v1) (hx : a.eval x = v2) (hr : (Builtin.append_ #[t, t] o.type #[v1, v2]).run P W = .ok v w1) (h : wpList P ops Q rest (a.put o.dst v) w1) : wpList P ops Q (o :: rest) a W := by
  refine wpList_plain hgd fun _ hK => ?_
  unfold Oper.wp execOp
  simp only [ho, resolve, invoke, builtin, Sem.run_bind, Sem.run_pure, Result.andThen_ok, List.map_toArray, List.map_cons, List.map_nil, hs, hx, hr]
  exact hK _ _ h
end Go.Proofs.Ytcfknakmamcinaa.Ow
namespace Go.Proofs.Ytcfknakmamcinaa.Wr
open Go Go.RowKit Go.ChangeMaps Go.Proofs.Ytcfknakmamcinaa.Arr Go.Proofs.Ytcfknakmamcinaa.Ow Go.Proofs.YtcfknakmamcinaaW.PrintWords Go.Proofs.YtcfknakmamcinaaW.PrintLast Go.Proofs.YtcfknakmamcinaaW.PrintMore
set_option linter.unusedVariables false
set_option linter.unusedSimpArgs false
abbrev TW : TypeId := 59
abbrev TB : TypeId := 5
abbrev TE : TypeId := 28
/-- What 'must' gives up with. -/
abbrev gaveUp (e : Int) : Ending := .panicked [{ v := .iface TE (.int .i64 e), recovered := false }]
theorem must_yes (e : Int) (w : World) : Calls Try.prog 24 #[.bool true, .int .i64 e] w fun x w' => x = .returned (.tuple #[]) ∧ w' = w := by
  go_enter Try.func24, Try.ntmps24
  go_wp2
  go_end0
  exact ⟨rfl, rfl⟩
theorem must_no (e : Int) (w : World) : Calls Try.prog 24 #[.bool false, .int .i64 e] w fun x w' => x = gaveUp e ∧ w' = w := by
  go_enter Try.func24, Try.ntmps24
  go_wp2
  exact ⟨rfl, rfl, rfl⟩
theorem blk_lt {w : World} {b : Nat} {o : Obj} (h : w.heap[b]? = some o) : b < w.heap.size := by
  rcases Nat.lt_or_ge b w.heap.size with h1 | h1
  · exact h1
  · simp [Array.getElem?_eq_none h1] at h
theorem blk_cell {w : World} {b : Nat} {cs : Array Value} {T : TypeId} {fr : Nat × Nat} (h : w.heap[b]? = some (.cells cs T fr)) (j : Nat) : w.cell? ⟨b, j, none⟩ = cs[j]? := Lib.cell_of_heap h j
theorem blk_frozen {w : World} {b : Nat} {cs : Array Value} {T : TypeId} (h : w.heap[b]? = some (.cells cs T (0, 0))) (j : Nat) : w.frozen? ⟨b, j, none⟩ = false := Lib.frozen_of_heap h j
theorem set_blk {w : World} {b : Nat} {cs : Array Value} {T : TypeId} {fr : Nat × Nat} (h : w.heap[b]? = some (.cells cs T fr)) (i : Nat) (u : Value) : (w.setCell ⟨b, i, none⟩ u).heap[b]? = some (.cells (cs.setIfInBounds i u) T fr) := by
  simp only [World.setCell]
  rw [Array.getElem?_modify, if_pos rfl, h]
  rfl
theorem infoBd : (Try.prog.info? 57).map (·.size) = some 2 := by kernel_rfl
theorem copyCheck_calls (g : Nat) (p bv : Value) (w : World) (h : w.heap[g]? = some (.cells #[p, bv] TW (0, 0))) (hp : p = .pointer none ∨ p = .pointer (some ⟨g, 0, none⟩)) : Calls Try.prog 49 #[.pointer (some ⟨g, 0, none⟩)] w fun x w' => x = .returned (.tuple #[]) ∧ w'.heap[g]? = some (.cells #[.pointer (some ⟨g, 0, none⟩), bv] TW (0, 0)) ∧ FS (fun k => k = g) w w' := by
  obtain ⟨j, hj, hjs⟩ := Option.map_eq_some_iff.1 infoBd
  rcases hp with rfl | rfl
  · have h0 : w.cell? ⟨g, 0, none⟩ = some (.pointer none) := blk_cell h 0
    have hfz : w.frozen? ⟨g, 0, none⟩ = false := blk_frozen h 0
    have hsh : w.shape? g = some (TW, 2) := by simp [World.shape?, h]
    have HB := Aside0.mk h
    clear h
    go_enter Try.func49, Try.ntmps49
    go_wp2
    rw [Lib.run_to_unsafe w ⟨g, 0, none⟩ (by kernel_rfl) (by kernel_rfl) hj (by rw [hjs]; decide) hsh (Nat.zero_lt_succ 1)]
    simp only [Result.andThen]
    rw [Oper.upon_value]
    go_wp2
    rw [run_callFunc_extern Try.func50 (by kernel_rfl) (by kernel_rfl) (by kernel_rfl) (e := Extern.AbiNoEscape.same) (by kernel_rfl)]
    rw [Lib.run_noEscape]
    simp only [Result.andThen]
    rw [Oper.upon_value]
    go_wp2
    rw [Lib.run_from_unsafe w ⟨g, 0, none⟩ (by kernel_rfl) (by kernel_rfl) hj hsh (by kernel_rfl)]
    simp only [Result.andThen]
    rw [Oper.upon_value]
    go_wp2
    go_end0
    exact ⟨rfl, set_blk HB.out 0 _, (FS.refl (fun k => k = g) w).setCell (p := ⟨g, 0, none⟩) (.inl (show g = g from rfl)) _⟩
  · have h0 : w.cell? ⟨g, 0, none⟩ = some (.pointer (some ⟨g, 0, none⟩)) := blk_cell h 0
    have HB := Aside0.mk h
    clear h
    go_enter Try.func49, Try.ntmps49
    go_wp2
    rw [Lib.run_neq_ptr_same w _ (by kernel_rfl) hj]
    go_wp2
    go_end0
    exact ⟨rfl, HB.out, FS.refl _ _⟩
structure WW (w : World) (S : Nat → Prop) (g : Nat) (l : List UInt8) (p bv : Value) : Prop where
  blk : w.heap[g]? = some (.cells #[p, bv] TW (0, 0))
  own : p = .pointer none ∨ p = .pointer (some ⟨g, 0, none⟩)
  buf : Ow w S TB 1 bv l.length (Lib.byteCells l)
  sg : S g
/-- Pointer g's writer has written l. -/
def WK (w : World) (S : Nat → Prop) (g : Nat) (l : List UInt8) : Prop := ∃ p bv, WW w S g l p bv
theorem ow_ne {w : World} {S : Nat → Prop} {e T : TypeId} {sz : Nat} {v : Value} {n : Nat} {xs : List Value} (h : Ow w S e sz v n xs) {b : Nat} {cs : Array Value} {fr : Nat × Nat} (hb : w.heap[b]? = some (.cells cs T fr)) (hT : T ≠ e) : ∀ k, v.ownBlock = some k → k ≠ b := fun k hk e1 => by
  subst e1
  rcases h.own.2 with ⟨rfl, _⟩ | ⟨g', cap, cur, rfl, _, hg, _⟩
  · cases hk
  · injection hk with hk
    subst hk
    rw [hb] at hg
    injection hg with hg
    injection hg with _ h2 _
    exact hT h2
theorem WW.lt {w : World} {S : Nat → Prop} {g : Nat} {l : List UInt8} {p bv : Value} (h : WW w S g l p bv) : g < w.heap.size := blk_lt h.blk
theorem blk_below {w w' : World} {b : Nat} {o : Obj} (h : w.heap[b]? = some o) (hb : Below w.heap.size w w') : w'.heap[b]? = some o := (hb.block b (blk_lt h)).trans h
theorem WK.below {w w' : World} {S : Nat → Prop} {g : Nat} {l : List UInt8} (h : WK w S g l) (hb : Below w.heap.size w w') : WK w' S g l := by
  obtain ⟨p, bv, h⟩ := h
  exact ⟨p, bv, blk_below h.blk hb, h.own, h.buf.same fun k hk => hb.block k (h.buf.own.lt k hk).2, h.sg⟩
theorem WK.kept {w w' : World} {S S2 : Nat → Prop} {g : Nat} {l : List UInt8} (h : WK w S g l) (hf : FS S2 w w') (hd : ∀ k, S k → ¬ S2 k) : WK w' S g l := by
  obtain ⟨p, bv, h⟩ := h
  exact ⟨p, bv, hf.old h.blk (hd g h.sg), h.own, h.buf.kept hf hd, h.sg⟩
theorem WK.mono {w : World} {S S2 : Nat → Prop} {g : Nat} {l : List UInt8} (h : WK w S g l) (hs : ∀ k, k < w.heap.size → S k → S2 k) : WK w S2 g l := by
  obtain ⟨p, bv, h⟩ := h
  exact ⟨p, bv, h.blk, h.own, h.buf.mono hs, hs g h.lt h.sg⟩
theorem WK.drew {w : World} {S : Nat → Prop} {g : Nat} {l : List UInt8} (h : WK w S g l) : WK w.drew S g l := h.below ((Below.refl _ _).drew)
/-- Behind copyCheck. -/
theorem WW.checked {w w' : World} {S : Nat → Prop} {g : Nat} {l : List UInt8} {p bv : Value} (h : WW w S g l p bv) (hb : w'.heap[g]? = some (.cells #[.pointer (some ⟨g, 0, none⟩), bv] TW (0, 0))) (hf : FS (fun k => k = g) w w') : WW w' S g l (.pointer (some ⟨g, 0, none⟩)) bv :=
  ⟨hb, .inr rfl, h.buf.same fun k hk => hf.block k (h.buf.own.lt k hk).2 (ow_ne h.buf h.blk (by decide) k hk), h.sg⟩
theorem grown_blk {w w' : World} {row : Option Nat} {b : Nat} {o : Obj} (hg : w.grownBy w' row) (h : w.heap[b]? = some o) (hn : some b ≠ row) : w'.heap[b]? = some o := (hg.block b (blk_lt h) hn).trans h
theorem WW.grown {w w' : World} {S : Nat → Prop} {g : Nat} {l l' : List UInt8} {p bv bv' : Value} (h : WW w S g l p bv) (hg : w.grownBy w' bv.ownBlock) (ho : Ow w' S TB 1 bv' l'.length (Lib.byteCells l')) :
    w'.heap[g]? = some (.cells #[p, bv] TW (0, 0)) ∧ WW (w'.setCell ⟨g, 1, none⟩ bv') S g l' p bv' := by
  have hb := grown_blk hg h.blk (fun e => ow_ne h.buf h.blk (by decide) g e.symm rfl)
  exact ⟨hb, set_blk hb 1 bv', h.own, ho.same fun k hk => Below.heap_setCell w' ⟨g, 1, none⟩ bv' k (ow_ne ho hb (by decide) k hk), h.sg⟩
theorem infoB : (Try.prog.info? TB).map (fun i => (i.zero, i.size, i.bytes)) = some (some (.int .u8 0), 1, 1) := by kernel_rfl
theorem push_byte {w : World} {S : Nat → Prop} {v : Value} (l : List UInt8) (b : UInt8) (h : Ow w S TB 1 v l.length (Lib.byteCells l)) (hl : l.length ≤ 1000000) {nb : Nat} (hnb : w.heap[nb]? = some (.cells #[.int .u8 b.toNat] TB (0, 0))) (ty : TypeId) :
    ∃ v' w', (Builtin.append_ #[55, 55] ty #[v, .slice (some ⟨nb, 0, none⟩) 1 1]).run Try.prog w = .ok v' w' ∧ Ow w' (fun k => S k ∨ k = w.heap.size) TB 1 v' (l ++ [b]).length (Lib.byteCells (l ++ [b])) ∧ w.grownBy w' v.ownBlock ∧ ∃ g' c', v' = .slice (some ⟨g', 0, none⟩) (l.length + 1) c' := by
  obtain ⟨i0, hi0, h2⟩ := Option.map_eq_some_iff.1 infoB
  have hz : i0.zero = some (.int .u8 0) := congrArg Prod.fst h2
  have hs : i0.size = 1 := congrArg (fun p => p.2.1) h2
  have hb : i0.bytes = 1 := congrArg (fun p => p.2.2) h2
  obtain ⟨v', w', r1, r2, r3, _, r5⟩ := run_append_ow (P := Try.prog) (ty := ty) 55 TB i0 _ 1 1 (by kernel_rfl) hi0 hz hs hb rfl (by decide) v l.length _ h ⟨nb, 0, none⟩ 1 1 [.int .u8 b.toNat] rfl (fun j u hj => by
    match j with
    | 0 => exact (blk_cell hnb 0).trans (by simpa using hj)
    | j + 1 => simp at hj) (fun u hu => by
    rcases List.mem_cons.1 hu with rfl | hu
    · rfl
    · cases hu) (by simp only [maxLen]; omega) (by omega) (by decide)
  refine ⟨v', w', r1, ?_, r3, r5⟩
  rw [List.length_append, Lib.byteCells_append]
  exact r2
theorem push_str {w : World} {S : Nat → Prop} {v : Value} (l : List UInt8) (s : ByteArray) (h : Ow w S TB 1 v l.length (Lib.byteCells l)) (hl : l.length + s.size ≤ 1000000) (hS : ∀ k, w.heap.size ≤ k → S k) (ty : TypeId) :
    ∃ v' w', (Builtin.append_ #[55, 9] ty #[v, .string s]).run Try.prog w = .ok v' w' ∧ Ow w' S TB 1 v' (l ++ s.data.toList).length (Lib.byteCells (l ++ s.data.toList)) ∧ w.grownBy w' v.ownBlock ∧ ∃ A' n' c', v' = .slice A' n' c' := by
  obtain ⟨i0, hi0, h2⟩ := Option.map_eq_some_iff.1 infoB
  have hz : i0.zero = some (.int .u8 0) := congrArg Prod.fst h2
  have hs : i0.size = 1 := congrArg (fun p => p.2.1) h2
  have hb : i0.bytes = 1 := congrArg (fun p => p.2.2) h2
  obtain ⟨v', w', r1, r2, r3, r4⟩ := Lib.run_append_own_string (P := Try.prog) w 0 55 9 ty TB i0 (by kernel_rfl) (by kernel_rfl) hi0 hz hs hb v l.length _ h.own s (by simp only [maxLen]; omega) (by omega) (Nat.zero_le _)
  have hsz : s.size = s.data.toList.length := by rw [Array.length_toList]; rfl
  refine ⟨v', w', r1, ⟨?_, ?_⟩, r3, ?_⟩
  · rw [List.length_append, Lib.byteCells_append, ← Lib.strCells_eq, ← hsz]
    exact r2
  · intro k hk
    have ht : Try.prog.underlying 55 = some (.slice TB) := by kernel_rfl
    have hu : Try.prog.underlying 9 = some .string := by kernel_rfl
    rcases h.own.2 with ⟨hv0, hn0⟩ | ⟨g, cap, cur, hv0, hbg, hg, hnc, hcm, hcs, htk⟩
    · subst hv0
      have hnil : Lib.byteCells l = [] := by rw [List.eq_nil_of_length_eq_zero hn0]; rfl
      obtain ⟨v2, w2, q1, q2, _, _⟩ := Lib.run_append_own_string (P := Try.prog) w w.heap.size 55 9 ty TB i0 ht hu hi0 hz hs hb _ 0 [] (World.ownsRow_nil w w.heap.size TB 1) s (by simp only [maxLen]; omega) (by omega) (Nat.le_refl _)
      have e := r1.symm.trans q1
      injection e with e1 e2
      subst e1
      exact hS k (q2.lt k hk).1
    · subst hv0
      by_cases hroom : l.length + s.size ≤ cap
      · have q1 := Lib.run_append_room_string (P := Try.prog) w 55 9 ty TB i0 ht hu hi0 hs g l.length cap cur hg s hroom (by omega)
        have e := r1.symm.trans q1
        injection e with e1 e2
        subst e1
        injection hk with hk
        subst hk
        exact h.mem g rfl
      · have q1 := Lib.run_append_grow_string (P := Try.prog) w 55 9 ty TB i0 _ ht hu hi0 hz ⟨g, 0, none⟩ l.length cap (Lib.byteCells l) (by rw [hs, Nat.mul_one]; exact Lib.byteCells_length l) (h.own.cells (g := g) rfl) s (by omega) (by omega) (by rw [hb]; exact growslice_fits (by omega) (by omega))
        have e := r1.symm.trans q1
        injection e with e1 e2
        subst e1
        injection hk with hk
        subst hk
        exact hS _ (Nat.le_refl _)
  · rcases r2.2 with ⟨hv, _⟩ | ⟨g, cap, cur, hv, _⟩
    · exact ⟨_, _, _, hv⟩
    · exact ⟨_, _, _, hv⟩
end Go.Proofs.Ytcfknakmamcinaa.Wr
namespace Go.Proofs.Ytcfknakmamcinaa.Wr
open Go Go.RowKit Go.ChangeMaps Go.Proofs.Ytcfknakmamcinaa.Arr Go.Proofs.Ytcfknakmamcinaa.Ow Go.Proofs.YtcfknakmamcinaaW.PrintWords Go.Proofs.YtcfknakmamcinaaW.PrintLast Go.Proofs.YtcfknakmamcinaaW.PrintMore
set_option linter.unusedVariables false
set_option linter.unusedSimpArgs false
def Top (S : Nat → Prop) (w : World) : Prop := ∀ k, w.heap.size ≤ k → S k
theorem Top.next {S : Nat → Prop} {w w' : World} (h : Top S w) (hl : w.heap.size ≤ w'.heap.size) : Top S w' := fun k hk => h k (Nat.le_trans hl hk)
theorem below_trans {a b c : World} (h : Below a.heap.size a b) (k : Below b.heap.size b c) : Below a.heap.size a c := Arr.below_trans h k
theorem ev_append2 {P : Program} {ops : Array Oper} {rest : List Oper} {o : Oper} {a : Act} {Q : Exit → Act → World → Prop} {W w1 : World} {v : Value} (s x : Operand) (t t2 : TypeId) (hgd : o.guard = none)
    (ho : o.op = .call { callee := .builtin .append, args := #[s, x], argTypes := #[t, t2] }) (v1 v2 : Value) (hs : a.eval s = v1) (hx : a.eval x = v2) (hr : (Builtin.append_ #[t, t2] o.type #[v1, v2]).run P W = .ok v w1)
    (h : wpList P ops Q rest (a.put o.dst v) w1) : wpList P ops Q (o :: rest) a W := by
  refine wpList_plain hgd fun _ hK => ?_
  unfold Oper.wp execOp
  simp only [ho, resolve, invoke, builtin, Sem.run_bind, Sem.run_pure, Result.andThen_ok, List.map_toArray, List.map_cons, List.map_nil, hs, hx, hr]
  exact hK _ _ h
theorem fs_freeze {S : Nat → Prop} {q : Nat} (h : S q) (w : World) (n : Nat) : FS S w (w.drew.freeze ⟨q, 0, none⟩ n) := by
  unfold World.freeze
  split
  · exact (FS.refl S w).drew
  · exact ⟨rfl, rfl, rfl, by simp, fun k hk hn => by
      simp only [Array.getElem?_modify]
      rw [if_neg (show ¬ q = k from fun e => hn (by rw [← e]; exact h))]
      rfl⟩
set_option maxHeartbeats 1000000 in
theorem writeByte_calls (g : Nat) (l : List UInt8) (b : UInt8) (S : Nat → Prop) (w : World) (hS : Top S w) (h : WK w S g l) (hl : l.length ≤ 1000000) : Calls Try.prog 48 #[.pointer (some ⟨g, 0, none⟩), .int .u8 (b.toNat : Int)] w fun x w' => x = .returned .nilIface ∧ WK w' S g (l ++ [b]) ∧ FS S w w' := by
  obtain ⟨p, bv, hv⟩ := h
  have HV := Aside0.mk hv; have HS := Aside0.mk hS; have HL := Aside0.mk hl; clear hv hS hl
  go_enter Try.func48, Try.ntmps48
  go_upto_region 2 with (go_at_call 49; (with_reducible refine (copyCheck_calls g p bv _ HV.out.blk HV.out.own).mono ?_); rintro e w1 ⟨rfl, hb, hf⟩; have HW := Aside0.mk (HV.out.checked hb hf); have F := Aside0.mk (hf.mono (S2 := S) fun k _ e => by rw [e]; exact HV.out.sg); clear hb hf)
  clear HV
  obtain ⟨A, c, rfl, -⟩ := HW.out.buf.shape
  have c1 : w1.cell? ⟨g, 1, none⟩ = some (.slice A l.length c) := blk_cell HW.out.blk 1
  have hbb := (Below.refl w1.heap.size w1).alloc (Nat.le_refl _) (.cells #[.int .u8 (b.toNat : Int)] TB)
  have hw2 : WW (w1.alloc (.cells #[.int .u8 (b.toNat : Int)] TB)) S g l (.pointer (some ⟨g, 0, none⟩)) (.slice A l.length c) := ⟨blk_below HW.out.blk hbb, .inr rfl, HW.out.buf.same fun k hk => hbb.block k (HW.out.buf.own.lt k hk).2, HW.out.sg⟩
  obtain ⟨v', W4, hr, how, hgr, g', c', rfl⟩ := push_byte l b hw2.buf HL.out (heap_alloc_new w1 _) 55
  have how2 := how.mono (S2 := S) (fun k _ hk => hk.elim id (fun e => HS.out k (by rw [e]; have := F.out.size; simp; omega)))
  have hp := hw2.grown hgr how2
  have k1 : W4.cell? ⟨g, 1, none⟩ = some (.slice A l.length c) := blk_cell hp.1 1
  have k2 : W4.frozen? ⟨g, 1, none⟩ = false := blk_frozen hp.1 1
  have HP := Aside0.mk hp.2; have HR := Aside0.mk hr
  have F4 := Aside0.mk (((F.out.below hbb).grown hgr (fun k hk => .inl (hw2.buf.mem k hk))).setCell (p := ⟨g, 1, none⟩) (.inl HW.out.sg) (.slice (some ⟨g', 0, none⟩) (l.length + 1) c'))
  clear hbb hw2 how how2 hgr hp hr
  go_wp2_with ((with_reducible refine gate_builtin (b := .append) (xs := #[.tmp 11, .tmp 13]) rfl ?_); at_builtin; refine ev_append (.tmp 11) (.tmp 13) 55 rfl rfl _ _ rfl rfl HR.out ?_)
  go_ret
  exact ⟨rfl, ⟨_, _, HP.out⟩, F4.out⟩
set_option maxHeartbeats 1000000 in
theorem writeString_calls (g : Nat) (l : List UInt8) (s : ByteArray) (S : Nat → Prop) (w : World) (hS : Top S w) (h : WK w S g l) (hl : l.length + s.size ≤ 1000000) : Calls Try.prog 41 #[.pointer (some ⟨g, 0, none⟩), .string s] w fun x w' => x = .returned (.tuple #[.int .i64 s.size, .nilIface]) ∧ WK w' S g (l ++ s.data.toList) ∧ FS S w w' := by
  obtain ⟨p, bv, hv⟩ := h
  have HV := Aside0.mk hv; have HS := Aside0.mk hS; have HL := Aside0.mk hl; clear hv hS hl
  go_enter Try.func41, Try.ntmps41
  go_upto_region 2 with (go_at_call 49; (with_reducible refine (copyCheck_calls g p bv _ HV.out.blk HV.out.own).mono ?_); rintro e w1 ⟨rfl, hb, hf⟩; have HW := Aside0.mk (HV.out.checked hb hf); have F := Aside0.mk (hf.mono (S2 := S) fun k _ e => by rw [e]; exact HV.out.sg); clear hb hf)
  clear HV
  obtain ⟨A, c, rfl, -⟩ := HW.out.buf.shape
  have c1 : w1.cell? ⟨g, 1, none⟩ = some (.slice A l.length c) := blk_cell HW.out.blk 1
  obtain ⟨v', W4, hr, how, hgr, A', n', c', rfl⟩ := push_str l s HW.out.buf HL.out (fun k hk => HS.out k (Nat.le_trans F.out.size hk)) 55
  have hp := HW.out.grown hgr how
  have k1 : W4.cell? ⟨g, 1, none⟩ = some (.slice A l.length c) := blk_cell hp.1 1
  have k2 : W4.frozen? ⟨g, 1, none⟩ = false := blk_frozen hp.1 1
  have HP := Aside0.mk hp.2; have HR := Aside0.mk hr
  have F4 := Aside0.mk ((F.out.grown hgr (fun k hk => .inl (HW.out.buf.mem k hk))).setCell (p := ⟨g, 1, none⟩) (.inl HW.out.sg) (.slice A' n' c'))
  clear how hgr hp hr
  go_wp2_with ((with_reducible refine gate_builtin (b := .append) (xs := #[.tmp 12, .tmp 13]) rfl ?_); at_builtin; refine ev_append2 (.tmp 12) (.tmp 13) 55 9 rfl rfl _ _ rfl rfl HR.out ?_)
  go_ret2
  exact ⟨rfl, ⟨_, _, HP.out⟩, F4.out⟩
set_option maxHeartbeats 1000000 in
theorem string_calls (g : Nat) (l : List UInt8) (S : Nat → Prop) (w : World) (h : WK w S g l) (h0 : l ≠ []) : Calls Try.prog 26 #[.pointer (some ⟨g, 0, none⟩)] w fun x w' => x = .returned (.string ⟨l.toArray⟩) ∧ FS S w w' := by
  obtain ⟨p, bv, hv⟩ := h
  have hl0 : 0 < l.length := List.length_pos_iff.2 h0
  obtain ⟨q, cap, cur, rfl, hq, hg, hnc, hcm, hcs, htk⟩ := hv.buf.open hl0
  have c1 : w.drew.cell? ⟨g, 1, none⟩ = some (.slice (some ⟨q, 0, none⟩) l.length cap) := blk_cell (w := w.drew) hv.blk 1
  have hSD : (Builtin.unsafeSliceData_ #[55] 89 #[.slice (some ⟨q, 0, none⟩) l.length cap]).run Try.prog w.drew = .ok (.pointer (some ⟨q, 0, none⟩)) w.drew :=
    Lib.run_unsafeSliceData_row _ _ _ _ _ _ (by omega)
  have hUS : (Builtin.unsafeString_ #[89, 3] 9 #[.pointer (some ⟨q, 0, none⟩), .int .i64 l.length]).run Try.prog w.drew = .ok (.string ⟨l.toArray⟩) (w.drew.freeze ⟨q, 0, none⟩ l.length) := by
    refine Lib.run_unsafeString_row w.drew 89 3 9 TB (by kernel_rfl) (by kernel_rfl) q cur.size (by have hg' : w.drew.heap[q]? = some (.cells cur TB (0, 0)) := hg; simp [World.shape?, hg']) l h0 (by omega) (by unfold maxLen at hcm; omega) ?_
    intro j x hx
    have := hv.buf.own.cells (g := q) rfl j (.int .u8 x.toNat) (by simp [Lib.byteCells, hx])
    exact this
  have HQ := Aside0.mk hq
  clear hv hl0 hg hnc hcm hcs htk h0
  go_enter Try.func26, Try.ntmps26
  go_wp2
  go_region
  all_goals (go_wp2; go_ret; exact ⟨rfl, fs_freeze HQ.out w l.length⟩)
end Go.Proofs.Ytcfknakmamcinaa.Wr
namespace Go.Proofs.Ytcfknakmamcinaa.Wr
open Go Go.RowKit Go.ChangeMaps Go.Proofs.Ytcfknakmamcinaa.Arr Go.Proofs.Ytcfknakmamcinaa.Ow Go.Proofs.YtcfknakmamcinaaW.PrintWords Go.Proofs.YtcfknakmamcinaaW.PrintLast Go.Proofs.YtcfknakmamcinaaW.PrintMore
set_option linter.unusedVariables false
set_option linter.unusedSimpArgs false
theorem as_errno (v : Value) (w : World) : (Instr.typeAssert (.iface TE v) 20 TE true).run Try.prog w = .ok (.tuple #[v, .bool true]) w := by kernel_rfl
theorem as_none (w : World) : (Instr.typeAssert .nilIface 20 TE true).run Try.prog w = .ok (.tuple #[.int .i64 0, .bool false]) w := by kernel_rfl
theorem caught_up (p : Addr) (x c : Int) (older : List PanicEntry) (w : World) (hc : w.cell? p = some (.int .i64 x)) (hz : w.frozen? p = false) :
    CallsD Try.prog 23 #[.pointer (some p)] (.panicking ({ v := .iface TE (.int .i64 c), recovered := false } :: older)) w fun e u' w' =>
      e = .returned (.tuple #[]) ∧ u' = .panicking ({ v := .iface TE (.int .i64 c), recovered := true } :: older) ∧ w' = w.setCell p (.int .i64 c) := by
  refine callsD_of_wpS Try.func23 rfl fun c₀ cs hu => ?_
  apply wpS_seq
  apply wpS_region
  simp [wpOpsS, go_sem, as_errno, as_none, recoverD, hu, Try.ntmps23, Exit.thenS]
  apply wpS_seq
  apply wpS_region
  simp [wpOpsS, go_sem, Exit.thenS]
  refine wpS_cond (t := true) (by simp [Act.eval, Array.replicate]) ?_
  simp only [if_true]
  apply wpS_region
  simp [wpOpsS, go_sem, hc, hz, bodyPostS, results, Try.results23]
theorem caught_idle (p : Addr) (w : World) :
    CallsD Try.prog 23 #[.pointer (some p)] .returning w fun e u' w' => e = .returned (.tuple #[]) ∧ u' = .returning ∧ w' = w := by
  refine callsD_of_wpS Try.func23 rfl fun c₀ cs hu => ?_
  apply wpS_seq
  apply wpS_region
  simp [wpOpsS, go_sem, as_errno, as_none, recoverD, hu, Try.ntmps23, Exit.thenS]
  apply wpS_seq
  apply wpS_region
  simp [wpOpsS, go_sem, Exit.thenS]
  refine wpS_cond (t := false) (by simp [Act.eval, Array.replicate]) ?_
  simp only [Bool.false_eq_true, if_false]
  refine wpS_of_wp (wp_skip ?_)
  cases c₀
  simp_all [bodyPostS, results, Try.results23]
/-- What is read at the door hangs on the results' slots alone. -/
theorem leaves_tmps {P : Program} {f : Func} {R : Ending → World → Prop} {t t' : Array Value} (h : results f t = results f t') : ∀ (ds : List Deferred) (u : FrameMode) (w : World), Leaves P f t R ds u w → Leaves P f t' R ds u w := by
  intro ds
  induction ds with
  | nil =>
    intro u w hl
    cases u with
    | run => exact hl
    | returning => rw [Leaves] at hl ⊢; rw [← h]; exact hl
    | panicking c => rw [Leaves] at hl ⊢; exact hl
  | cons d ds ih =>
    intro u w hl
    rw [Leaves] at hl ⊢
    obtain ⟨h1, fv, cap, k, args, h2, h3, h4⟩ := hl
    refine ⟨h1, fv, cap, k, args, h2, h3, h4.mono ?_⟩
    intro e u' w' hx
    cases e with
    | returned v => exact ih _ _ hx
    | panicked c => exact ih _ _ hx
    | outgrown => exact hx
theorem put_get (a : Act) (n j : Nat) (v d : Value) (h : n ≠ j) : (a.put (some n) v).tmps.getD j d = a.tmps.getD j d := by
  unfold Act.put
  simp only [Array.getD_eq_getD_getElem?, Array.getElem?_setIfInBounds, if_neg h]
theorem bp_print {R : Ending → World → Prop} (n : Nat) (hn : n ≠ 2 ∧ n ≠ 3) (v : Value) (c : List PanicEntry) (a : Act) (w : World) (h : bodyPostD Try.prog Try.f13 R (.panic c) (a.put (some n) v) w) : bodyPostD Try.prog Try.f13 R (.panic c) a w := by
  have e : results Try.f13 (a.put (some n) v).tmps = results Try.f13 a.tmps := by
    have e2 := put_get a n 2 v undef hn.1
    have e3 := put_get a n 3 v undef hn.2
    unfold results
    rw [Try.results13]
    simp only [Array.mapM_eq_mapM_toList, List.mapM_cons, List.mapM_nil, e2, e3]
  exact leaves_tmps e _ _ _ h
end Go.Proofs.Ytcfknakmamcinaa.Wr
namespace Go.Proofs.Ytcfknakmamcinaa.Bof
open Go Go.RowKit Go.Proofs.Ytcfknakmamcinaa.Arr Go.Proofs.YtcfknakmamcinaaW.PrintWords Go.Proofs.Ytcfknakmamcinaa
set_option linter.unusedVariables false
/-- Block g bears s's bytes ahead; a mark behind them. -/
def Holds (w : World) (g : Nat) (T : TypeId) (s : ByteArray) : Prop := ∃ (C : Array Value) (a b : Nat), w.heap[g]? = some (.cells C T (a, b)) ∧ s.size ≤ a ∧ s.size ≤ C.size ∧ ∀ i (h : i < s.size), C[i]? = some (.int .u8 ((s[i]'h).toNat : Int))
theorem Holds.below {w w1 : World} {g : Nat} {T : TypeId} {s : ByteArray} (h : Holds w g T s) (hb : Below w.heap.size w w1) : Holds w1 g T s := by
  obtain ⟨C, a, b, h1, h2⟩ := h
  exact ⟨C, a, b, Wr.blk_below h1 hb, h2⟩
theorem Holds.cell {w : World} {g : Nat} {T : TypeId} {s : ByteArray} (h : Holds w g T s) (i : Nat) (hi : i < s.size) : w.cell? ⟨g, i, none⟩ = some (.int .u8 ((s[i]'hi).toNat : Int)) := by
  obtain ⟨C, a, b, h1, _, _, h3⟩ := h
  rw [cell_of_row w g i C T (a, b) h1]
  exact h3 i hi
/-- '[]byte(s)'. -/
theorem made {P : Program} (w : World) (src dst e : TypeId) (s : ByteArray) (hs : P.underlying src = some .string) (hd : P.underlying dst = some (.slice e)) (he : P.underlying e = some (.int .u8)) :
    ∃ (c : Nat) (w1 : World), (convert src dst (.string s)).run P w = .ok (.slice (some ⟨w.heap.size, 0, none⟩) s.size c) w1 ∧ s.size ≤ c ∧ Holds w1 w.heap.size e s ∧ Below w.heap.size w w1 := by
  have hge := grownCap_ge w s.size 0 e
  refine ⟨_, _, run_bytes_of_string w src dst e s hs hd he, hge, ⟨bytesRow s (grownCap w s.size 0 e), (bytesRow s (grownCap w s.size 0 e)).size, (bytesRow s (grownCap w s.size 0 e)).size + 1, ?_, ?_, ?_, ?_⟩, ?_⟩
  · show (w.heap.push _)[w.heap.size]? = _
    simp
  · simp [bytesRow]
  · simp [bytesRow]
  · intro i hi
    have h2 : i < s.data.size := hi
    unfold bytesRow
    rw [Array.getElem?_append_left (by simpa using hi), Array.getElem?_map, Array.getElem?_eq_getElem h2]
    rfl
  · exact (Below.refl w.heap.size w).drew.alloc (Nat.le_refl _) _
end Go.Proofs.Ytcfknakmamcinaa.Bof
-- Written by this session's xprint.py (the kit's print, with contracts proved by hand).
namespace Go.Proofs.Ytcfknakmamcinaa.X4
open Go.RowKit Go.Proofs.YtcfknakmamcinaaW.PrintWords Go.Proofs.YtcfknakmamcinaaW.PrintLast Go.Proofs.YtcfknakmamcinaaW.PrintMore
attribute [local go_sem] max2_int min2_int max_two min_two max_three min_three max_four min_four   -- for this text's walks alone
set_option linter.unusedVariables false
set_option linter.unusedSimpArgs false
theorem eqA66 (d : Nat) (w : World) (x0 y0 : Int) (x1 y1 : Int) (x2 y2 : Int) :
    (Op.equalIn (d + 2) 66 (.agg #[.int .i64 x0, .int .i64 x1, .int .i64 x2]) (.agg #[.int .i64 y0, .int .i64 y1, .int .i64 y2])).run Try.prog w = .ok (x0 == y0 && (x1 == y1 && (x2 == y2))) w := by
  refine eqA_of Try.underlying66 (by kernel_rfl) ?_
  refine eqf_cons (by rfl) (by go_simp; rfl) (by go_simp; rfl) (by go_simp) ?_
  refine eqf_cons (by rfl) (by go_simp; rfl) (by go_simp; rfl) (by go_simp) ?_
  exact eqf_last (by rfl) (by go_simp; rfl) (by go_simp; rfl) (by go_simp)
end Go.Proofs.Ytcfknakmamcinaa.X4
-- Written by this session's xprint.py (the kit's print, with contracts proved by hand).
namespace Go.Proofs.Ytcfknakmamcinaa.X4
open Go.RowKit Go.Proofs.YtcfknakmamcinaaW.PrintWords Go.Proofs.YtcfknakmamcinaaW.PrintLast Go.Proofs.YtcfknakmamcinaaW.PrintMore
attribute [local go_sem] max2_int min2_int max_two min_two max_three min_three max_four min_four   -- for this text's walks alone
set_option linter.unusedVariables false
set_option linter.unusedSimpArgs false
theorem eqA68 (d : Nat) (w : World) (x0 y0 : Int) (x1 y1 : Int) :
    (Op.equalIn (d + 2) 68 (.agg #[.int .i64 x0, .int .i64 x1]) (.agg #[.int .i64 y0, .int .i64 y1])).run Try.prog w = .ok (x0 == y0 && (x1 == y1)) w := by
  refine eqA_of Try.underlying68 (by kernel_rfl) ?_
  refine eqf_cons (by rfl) (by go_simp; rfl) (by go_simp; rfl) (by go_simp) ?_
  exact eqf_last (by rfl) (by go_simp; rfl) (by go_simp; rfl) (by go_simp)
end Go.Proofs.Ytcfknakmamcinaa.X4
namespace Go.Proofs.Ytcfknakmamcinaa.Sa
open Go Go.RowKit Go.ChangeMaps Go.Proofs.Ytcfknakmamcinaa.Rp Go.Proofs.Ytcfknakmamcinaa.X4 Go.Proofs.YtcfknakmamcinaaW.PrintWords Go.Proofs.YtcfknakmamcinaaW.PrintLast Go.Proofs.YtcfknakmamcinaaW.PrintMore
set_option linter.unusedVariables false
set_option linter.unusedSimpArgs false
attribute [local go_sem high] eqA66 eqA68
theorem neT_iff (x y : S66) : (!(x.f0 == y.f0) || (!(x.f1 == y.f1) || (!(x.f2 == y.f2)))) = false ↔ x = y := by
  obtain ⟨a, b, c⟩ := x
  obtain ⟨d, e, f⟩ := y
  simp only [S66.mk.injEq]
  by_cases h1 : a = d <;> by_cases h2 : b = e <;> simp [h1, h2]
theorem take_neT {X Y : List S66} {k : Nat} {x y : S66} (hx : X[k]? = some x) (hy : Y[k]? = some y) (hn : x ≠ y) : X ≠ Y := fun e => by
  subst e
  rw [hx] at hy
  exact hn (Option.some.inj hy)
theorem take_eqT {X Y : List S66} {k : Nat} {x : S66} (h : X.take k = Y.take k) (hx : X[k]? = some x) (hy : Y[k]? = some x) : X.take (k + 1) = Y.take (k + 1) := by
  rw [List.take_add_one, List.take_add_one, h, hx, hy]
theorem neQ_iff (x y : S68) : (!(x.f0 == y.f0) || (!(x.f1 == y.f1))) = false ↔ x = y := by
  obtain ⟨a, b⟩ := x
  obtain ⟨d, e⟩ := y
  simp only [S68.mk.injEq]
  by_cases h1 : a = d <;> by_cases h2 : b = e <;> simp [h1, h2]
theorem take_neQ {X Y : List S68} {k : Nat} {x y : S68} (hx : X[k]? = some x) (hy : Y[k]? = some y) (hn : x ≠ y) : X ≠ Y := fun e => by
  subst e
  rw [hx] at hy
  exact hn (Option.some.inj hy)
theorem take_eqQ {X Y : List S68} {k : Nat} {x : S68} (h : X.take k = Y.take k) (hx : X[k]? = some x) (hy : Y[k]? = some x) : X.take (k + 1) = Y.take (k + 1) := by
  rw [List.take_add_one, List.take_add_one, h, hx, hy]
set_option maxHeartbeats 1000000 in
theorem eqT_calls (X Y : List S66) (A : Option Addr) (c : Nat) (B : Option Addr) (d : Nat) (w : World) (hx : Kd.C k66 w A X.length X) (hy : Kd.C k66 w B Y.length Y) (hl : X.length ≤ 1000000) : Calls Try.prog 32 #[.slice A X.length c, .slice B Y.length d] w fun e w' => e = .returned (.bool (decide (X = Y))) ∧ Below w.heap.size w w' := by
  have hu := Try.underlying66
  have HCX := Aside0.mk hx; have HCY := Aside0.mk hy; have HL := Aside0.mk hl
  clear hx hy hl
  by_cases hle : X.length = Y.length
  rotate_left
  · have e1 : ((X.length : Int) != (Y.length : Int)) = true := by rw [bne_iff_ne]; omega
    have e2 : (X.length == Y.length) = false := by rw [beq_eq_false_iff_ne]; exact hle
    have HN := Aside0.mk (show decide (X = Y) = false from decide_eq_false fun e => hle (by rw [e]))
    clear hle
    go_enter Try.func32, Try.ntmps32
    go_wp2
    go_ret
    exact ⟨by rw [HN.out]; rfl, Below.refl _ _⟩
  have e1 : ((X.length : Int) != (Y.length : Int)) = false := by rw [bne_eq_false_iff_eq]; omega
  have e2 : (X.length == Y.length) = true := by rw [beq_iff_eq]; exact hle
  have HLE := Aside0.mk hle
  clear hle
  go_enter Try.func32, Try.ntmps32
  go_upto_region 4 with (fail)
  clear e1 e2
  go_loopw [13] (fun v wr => ∃ k : Nat, v = .int .i64 k ∧ Aside0 (k ≤ X.length) ∧ Aside0 (X.take k = Y.take k) ∧ Aside0 (∃ m, wr = w.drewN m)) (fun v _ => X.length - (intOf v).toNat)
  case atStart => exact ⟨0, rfl, ⟨Nat.zero_le _⟩, ⟨rfl⟩, ⟨0, rfl⟩⟩
  case round =>
    obtain ⟨k, rfl, K, HT, HW⟩ := hrel
    obtain ⟨m, rfl⟩ := HW.out
    by_cases hlt : k < X.length
    · have h1 : (k : Int) < (X.length : Int) := by omega
      have h1b : (k : Int) < (Y.length : Int) := by have := HLE.out; omega
      have h2 : (0 : Int) ≤ (k : Int) := by omega
      have hly : k < Y.length := by have := HLE.out; omega
      have hwk : wrap64 ((k : Int) + 1) = ((k + 1 : Nat) : Int) := by have := HL.out; unfold wrap64; omega
      obtain ⟨ad, e_, x0, x1, x2⟩ := at_T66 HCX.out k h2 h1
      obtain ⟨bd, e2_, y0, y1, y2⟩ := at_T66 HCY.out k h2 h1b
      have hX : X[k]? = some (rd_T66 X k) := by unfold rd_T66; rw [Int.toNat_natCast, List.getD_eq_getElem?_getD, List.getElem?_eq_getElem (by omega)]; rfl
      have hY : Y[k]? = some (rd_T66 Y k) := by unfold rd_T66; rw [Int.toNat_natCast, List.getD_eq_getElem?_getD, List.getElem?_eq_getElem (by omega)]; rfl
      have HX := Aside0.mk hX; have HY := Aside0.mk hY; clear hX hY
      simp only [Int.toNat_natCast] at x0 x1 x2 y0 y1 y2
      subst e_; subst e2_
      generalize rd_T66 X k = x at *
      generalize rd_T66 Y k = y at *
      have HLT := Aside0.mk hlt
      by_cases hxy : x = y
      · have n1 : (!(x.f0 == y.f0) || (!(x.f1 == y.f1) || (!(x.f2 == y.f2)))) = false := (neT_iff x y).2 hxy
        have HXY := Aside0.mk hxy; clear hxy hlt
        go_wp2
        go_quiet (fail)
        go_wp2
        (try simp only [hwk])
        refine ⟨⟨k + 1, rfl, ⟨HLT.out⟩, ⟨take_eqT HT.out HX.out (by rw [HXY.out]; exact HY.out)⟩, ⟨⟨_, rfl⟩⟩⟩, ?_⟩
        have := HLT.out
        show X.length - (intOf (.int .i64 ((k + 1 : Nat) : Int))).toNat < X.length - (intOf (.int .i64 (k : Int))).toNat
        simp only [intOf]; omega
      · have n1 : (!(x.f0 == y.f0) || (!(x.f1 == y.f1) || (!(x.f2 == y.f2)))) = true := by rw [← Bool.not_eq_false, neT_iff]; exact hxy
        have HN := Aside0.mk (show decide (X = Y) = false from decide_eq_false (take_neT HX.out HY.out hxy))
        clear hxy hlt
        go_wp2
        go_quiet (fail)
        go_wp2
        go_ret
        exact ⟨by rw [HN.out]; rfl, pw_below_drewN (pw_below_drewN (Below.refl _ _) _) _⟩
    · obtain rfl : k = X.length := by have := K.out; omega
      have HN := Aside0.mk (show decide (X = Y) = true by
        have h := HT.out
        rw [List.take_length, HLE.out, List.take_length] at h
        exact decide_eq_true h)
      clear hlt
      go_wp2
      go_ret
      exact ⟨by rw [HN.out]; rfl, pw_below_drewN (Below.refl _ _) _⟩
set_option maxHeartbeats 1000000 in
theorem eqQ_calls (X Y : List S68) (A : Option Addr) (c : Nat) (B : Option Addr) (d : Nat) (w : World) (hx : Kd.C k68 w A X.length X) (hy : Kd.C k68 w B Y.length Y) (hl : X.length ≤ 1000000) : Calls Try.prog 33 #[.slice A X.length c, .slice B Y.length d] w fun e w' => e = .returned (.bool (decide (X = Y))) ∧ Below w.heap.size w w' := by
  have hu := Try.underlying68
  have HCX := Aside0.mk hx; have HCY := Aside0.mk hy; have HL := Aside0.mk hl
  clear hx hy hl
  by_cases hle : X.length = Y.length
  rotate_left
  · have e1 : ((X.length : Int) != (Y.length : Int)) = true := by rw [bne_iff_ne]; omega
    have e2 : (X.length == Y.length) = false := by rw [beq_eq_false_iff_ne]; exact hle
    have HN := Aside0.mk (show decide (X = Y) = false from decide_eq_false fun e => hle (by rw [e]))
    clear hle
    go_enter Try.func33, Try.ntmps33
    go_wp2
    go_ret
    exact ⟨by rw [HN.out]; rfl, Below.refl _ _⟩
  have e1 : ((X.length : Int) != (Y.length : Int)) = false := by rw [bne_eq_false_iff_eq]; omega
  have e2 : (X.length == Y.length) = true := by rw [beq_iff_eq]; exact hle
  have HLE := Aside0.mk hle
  clear hle
  go_enter Try.func33, Try.ntmps33
  go_upto_region 4 with (fail)
  clear e1 e2
  go_loopw [13] (fun v wr => ∃ k : Nat, v = .int .i64 k ∧ Aside0 (k ≤ X.length) ∧ Aside0 (X.take k = Y.take k) ∧ Aside0 (∃ m, wr = w.drewN m)) (fun v _ => X.length - (intOf v).toNat)
  case atStart => exact ⟨0, rfl, ⟨Nat.zero_le _⟩, ⟨rfl⟩, ⟨0, rfl⟩⟩
  case round =>
    obtain ⟨k, rfl, K, HT, HW⟩ := hrel
    obtain ⟨m, rfl⟩ := HW.out
    by_cases hlt : k < X.length
    · have h1 : (k : Int) < (X.length : Int) := by omega
      have h1b : (k : Int) < (Y.length : Int) := by have := HLE.out; omega
      have h2 : (0 : Int) ≤ (k : Int) := by omega
      have hly : k < Y.length := by have := HLE.out; omega
      have hwk : wrap64 ((k : Int) + 1) = ((k + 1 : Nat) : Int) := by have := HL.out; unfold wrap64; omega
      obtain ⟨ad, e_, x0, x1⟩ := at_T68 HCX.out k h2 h1
      obtain ⟨bd, e2_, y0, y1⟩ := at_T68 HCY.out k h2 h1b
      have hX : X[k]? = some (rd_T68 X k) := by unfold rd_T68; rw [Int.toNat_natCast, List.getD_eq_getElem?_getD, List.getElem?_eq_getElem (by omega)]; rfl
      have hY : Y[k]? = some (rd_T68 Y k) := by unfold rd_T68; rw [Int.toNat_natCast, List.getD_eq_getElem?_getD, List.getElem?_eq_getElem (by omega)]; rfl
      have HX := Aside0.mk hX; have HY := Aside0.mk hY; clear hX hY
      simp only [Int.toNat_natCast] at x0 x1 y0 y1
      subst e_; subst e2_
      generalize rd_T68 X k = x at *
      generalize rd_T68 Y k = y at *
      have HLT := Aside0.mk hlt
      by_cases hxy : x = y
      · have n1 : (!(x.f0 == y.f0) || (!(x.f1 == y.f1))) = false := (neQ_iff x y).2 hxy
        have HXY := Aside0.mk hxy; clear hxy hlt
        go_wp2
        go_quiet (fail)
        go_wp2
        (try simp only [hwk])
        refine ⟨⟨k + 1, rfl, ⟨HLT.out⟩, ⟨take_eqQ HT.out HX.out (by rw [HXY.out]; exact HY.out)⟩, ⟨⟨_, rfl⟩⟩⟩, ?_⟩
        have := HLT.out
        show X.length - (intOf (.int .i64 ((k + 1 : Nat) : Int))).toNat < X.length - (intOf (.int .i64 (k : Int))).toNat
        simp only [intOf]; omega
      · have n1 : (!(x.f0 == y.f0) || (!(x.f1 == y.f1))) = true := by rw [← Bool.not_eq_false, neQ_iff]; exact hxy
        have HN := Aside0.mk (show decide (X = Y) = false from decide_eq_false (take_neQ HX.out HY.out hxy))
        clear hxy hlt
        go_wp2
        go_quiet (fail)
        go_wp2
        go_ret
        exact ⟨by rw [HN.out]; rfl, pw_below_drewN (pw_below_drewN (Below.refl _ _) _) _⟩
    · obtain rfl : k = X.length := by have := K.out; omega
      have HN := Aside0.mk (show decide (X = Y) = true by
        have h := HT.out
        rw [List.take_length, HLE.out, List.take_length] at h
        exact decide_eq_true h)
      clear hlt
      go_wp2
      go_ret
      exact ⟨by rw [HN.out]; rfl, pw_below_drewN (Below.refl _ _) _⟩
theorem two_below {w w' : World} {X Y : Obj} (hb : Below ((w.alloc X).alloc Y).heap.size ((w.alloc X).alloc Y) w') : w'.heap[w.heap.size]? = some X ∧ w'.heap[w.heap.size + 1]? = some Y := by
  have h1 : ((w.alloc X).alloc Y).heap[w.heap.size]? = some X := blk_below (heap_alloc_new w X) ((Below.refl _ _).alloc (Nat.le_refl _) Y)
  have h2 := heap_alloc_new (w.alloc X) Y
  rw [show (w.alloc X).heap.size = w.heap.size + 1 by simp] at h2
  exact ⟨blk_below h1 hb, blk_below h2 hb⟩
abbrev aggR (r : S25) (B9 : Option Addr) (d9 : Nat) (B10 : Option Addr) (d10 : Nat) : Value := .agg #[.int .i64 r.f0, .int .i64 r.f1, .int .i64 r.f2, .int .i64 r.f3, .int .i64 r.f4, .int .i64 r.f5, .int .i64 r.f6, .string r.f7, .string r.f8, .slice B9 r.f9.length d9, .slice B10 r.f10.length d10]
set_option maxHeartbeats 4000000 in
theorem same_calls (a b : S25) (A9 : Option Addr) (c9 : Nat) (A10 : Option Addr) (c10 : Nat) (B9 : Option Addr) (d9 : Nat) (B10 : Option Addr) (d10 : Nat) (w : World)
    (h9 : Kd.C k66 w A9 a.f9.length a.f9) (h10 : Kd.C k68 w A10 a.f10.length a.f10) (g9 : Kd.C k66 w B9 b.f9.length b.f9) (g10 : Kd.C k68 w B10 b.f10.length b.f10) (s9 : a.f9.length ≤ 1000000) (s10 : a.f10.length ≤ 1000000) :
    Calls Try.prog 18 #[aggR a A9 c9 A10 c10, aggR b B9 d9 B10 d10] w fun e w' => e = .returned (.bool (decide (a = b))) ∧ Below w.heap.size w w' := by
  have H9 := Aside0.mk h9; have H10 := Aside0.mk h10; have G9 := Aside0.mk g9; have G10 := Aside0.mk g10; have S9 := Aside0.mk s9; have S10 := Aside0.mk s10
  clear h9 h10 g9 g10 s9 s10
  by_cases h0 : a.f0 = b.f0
  rotate_left
  · have e0 : (a.f0 == b.f0) = false := by rw [beq_eq_false_iff_ne]; exact h0
    have HN := Aside0.mk (show decide (a = b) = false from decide_eq_false fun e => h0 (by rw [e]))
    clear h0
    go_enter Try.func18, Try.ntmps18
    go_wp2
    go_ret
    exact ⟨by rw [HN.out]; rfl, ((Below.refl w.heap.size w).alloc (Nat.le_refl _) _).alloc (by simp) _⟩
  have e0 : (a.f0 == b.f0) = true := by rw [beq_iff_eq, h0]
  have Q0 := Aside0.mk h0; clear h0
  by_cases h1 : a.f1 = b.f1
  rotate_left
  · have e1 : (a.f1 == b.f1) = false := by rw [beq_eq_false_iff_ne]; exact h1
    have HN := Aside0.mk (show decide (a = b) = false from decide_eq_false fun e => h1 (by rw [e]))
    clear h1
    go_enter Try.func18, Try.ntmps18
    go_wp2
    go_ret
    exact ⟨by rw [HN.out]; rfl, ((Below.refl w.heap.size w).alloc (Nat.le_refl _) _).alloc (by simp) _⟩
  have e1 : (a.f1 == b.f1) = true := by rw [beq_iff_eq, h1]
  have Q1 := Aside0.mk h1; clear h1
  by_cases h2 : a.f2 = b.f2
  rotate_left
  · have e2 : (a.f2 == b.f2) = false := by rw [beq_eq_false_iff_ne]; exact h2
    have HN := Aside0.mk (show decide (a = b) = false from decide_eq_false fun e => h2 (by rw [e]))
    clear h2
    go_enter Try.func18, Try.ntmps18
    go_wp2
    go_ret
    exact ⟨by rw [HN.out]; rfl, ((Below.refl w.heap.size w).alloc (Nat.le_refl _) _).alloc (by simp) _⟩
  have e2 : (a.f2 == b.f2) = true := by rw [beq_iff_eq, h2]
  have Q2 := Aside0.mk h2; clear h2
  by_cases h3 : a.f3 = b.f3
  rotate_left
  · have e3 : (a.f3 == b.f3) = false := by rw [beq_eq_false_iff_ne]; exact h3
    have HN := Aside0.mk (show decide (a = b) = false from decide_eq_false fun e => h3 (by rw [e]))
    clear h3
    go_enter Try.func18, Try.ntmps18
    go_wp2
    go_ret
    exact ⟨by rw [HN.out]; rfl, ((Below.refl w.heap.size w).alloc (Nat.le_refl _) _).alloc (by simp) _⟩
  have e3 : (a.f3 == b.f3) = true := by rw [beq_iff_eq, h3]
  have Q3 := Aside0.mk h3; clear h3
  by_cases h4 : a.f4 = b.f4
  rotate_left
  · have e4 : (a.f4 == b.f4) = false := by rw [beq_eq_false_iff_ne]; exact h4
    have HN := Aside0.mk (show decide (a = b) = false from decide_eq_false fun e => h4 (by rw [e]))
    clear h4
    go_enter Try.func18, Try.ntmps18
    go_wp2
    go_ret
    exact ⟨by rw [HN.out]; rfl, ((Below.refl w.heap.size w).alloc (Nat.le_refl _) _).alloc (by simp) _⟩
  have e4 : (a.f4 == b.f4) = true := by rw [beq_iff_eq, h4]
  have Q4 := Aside0.mk h4; clear h4
  by_cases h5 : a.f5 = b.f5
  rotate_left
  · have e5 : (a.f5 == b.f5) = false := by rw [beq_eq_false_iff_ne]; exact h5
    have HN := Aside0.mk (show decide (a = b) = false from decide_eq_false fun e => h5 (by rw [e]))
    clear h5
    go_enter Try.func18, Try.ntmps18
    go_wp2
    go_ret
    exact ⟨by rw [HN.out]; rfl, ((Below.refl w.heap.size w).alloc (Nat.le_refl _) _).alloc (by simp) _⟩
  have e5 : (a.f5 == b.f5) = true := by rw [beq_iff_eq, h5]
  have Q5 := Aside0.mk h5; clear h5
  by_cases h6 : a.f6 = b.f6
  rotate_left
  · have e6 : (a.f6 == b.f6) = false := by rw [beq_eq_false_iff_ne]; exact h6
    have HN := Aside0.mk (show decide (a = b) = false from decide_eq_false fun e => h6 (by rw [e]))
    clear h6
    go_enter Try.func18, Try.ntmps18
    go_wp2
    go_ret
    exact ⟨by rw [HN.out]; rfl, ((Below.refl w.heap.size w).alloc (Nat.le_refl _) _).alloc (by simp) _⟩
  have e6 : (a.f6 == b.f6) = true := by rw [beq_iff_eq, h6]
  have Q6 := Aside0.mk h6; clear h6
  by_cases h7 : a.f7 = b.f7
  rotate_left
  · have e7 : (a.f7.toList == b.f7.toList) = false := by rw [beq_eq_false_iff_ne]; exact fun e => h7 ((toList_eq _ _).1 e)
    have HN := Aside0.mk (show decide (a = b) = false from decide_eq_false fun e => h7 (by rw [e]))
    clear h7
    go_enter Try.func18, Try.ntmps18
    go_wp2
    go_ret
    exact ⟨by rw [HN.out]; rfl, ((Below.refl w.heap.size w).alloc (Nat.le_refl _) _).alloc (by simp) _⟩
  have e7 : (a.f7.toList == b.f7.toList) = true := by rw [beq_iff_eq, h7]
  have Q7 := Aside0.mk h7; clear h7
  by_cases h8 : a.f8 = b.f8
  rotate_left
  · have e8 : (a.f8.toList == b.f8.toList) = false := by rw [beq_eq_false_iff_ne]; exact fun e => h8 ((toList_eq _ _).1 e)
    have HN := Aside0.mk (show decide (a = b) = false from decide_eq_false fun e => h8 (by rw [e]))
    clear h8
    go_enter Try.func18, Try.ntmps18
    go_wp2
    go_ret
    exact ⟨by rw [HN.out]; rfl, ((Below.refl w.heap.size w).alloc (Nat.le_refl _) _).alloc (by simp) _⟩
  have e8 : (a.f8.toList == b.f8.toList) = true := by rw [beq_iff_eq, h8]
  have Q8 := Aside0.mk h8; clear h8
  by_cases h9 : a.f9 = b.f9
  rotate_left
  · have HN := Aside0.mk (show decide (a = b) = false from decide_eq_false fun e => h9 (by rw [e])); have HD9 := Aside0.mk (decide_eq_false h9)
    clear h9
    go_enter Try.func18, Try.ntmps18
    go_wp2_with (go_at_call 32; (with_reducible refine (eqT_calls a.f9 b.f9 _ _ _ _ _ (Kd.C_below H9.out (((Below.refl w.heap.size w).alloc (Nat.le_refl _) _).alloc (by simp) _)) (Kd.C_below G9.out (((Below.refl w.heap.size w).alloc (Nat.le_refl _) _).alloc (by simp) _)) S9.out).mono ?_); rintro e w9 ⟨rfl, hb_⟩; rw [HD9.out]; have HB9 := Aside0.mk (Below.trans (((Below.refl w.heap.size w).alloc (Nat.le_refl _) _).alloc (by simp) _) (hb_.mono (by simp; omega))); have q10 : w9.cell? ⟨w.heap.size, 10, none⟩ = some (.slice A10 a.f10.length c10) := blk_cell (two_below hb_).1 10; have p10 : w9.cell? ⟨w.heap.size + 1, 10, none⟩ = some (.slice B10 b.f10.length d10) := blk_cell (two_below hb_).2 10; clear hb_)
    go_ret
    exact ⟨by rw [HN.out]; rfl, HB9.out⟩
  by_cases h10 : a.f10 = b.f10
  rotate_left
  · have HN := Aside0.mk (show decide (a = b) = false from decide_eq_false fun e => h10 (by rw [e])); have HD9 := Aside0.mk (decide_eq_true h9); have HD10 := Aside0.mk (decide_eq_false h10)
    clear h9 h10
    go_enter Try.func18, Try.ntmps18
    go_wp2_with (first | (go_at_call 32; (with_reducible refine (eqT_calls a.f9 b.f9 _ _ _ _ _ (Kd.C_below H9.out (((Below.refl w.heap.size w).alloc (Nat.le_refl _) _).alloc (by simp) _)) (Kd.C_below G9.out (((Below.refl w.heap.size w).alloc (Nat.le_refl _) _).alloc (by simp) _)) S9.out).mono ?_); rintro e w9 ⟨rfl, hb_⟩; rw [HD9.out]; have HB9 := Aside0.mk (Below.trans (((Below.refl w.heap.size w).alloc (Nat.le_refl _) _).alloc (by simp) _) (hb_.mono (by simp; omega))); have q10 : w9.cell? ⟨w.heap.size, 10, none⟩ = some (.slice A10 a.f10.length c10) := blk_cell (two_below hb_).1 10; have p10 : w9.cell? ⟨w.heap.size + 1, 10, none⟩ = some (.slice B10 b.f10.length d10) := blk_cell (two_below hb_).2 10; clear hb_) | (go_at_call 33; (with_reducible refine (eqQ_calls a.f10 b.f10 _ _ _ _ _ (Kd.C_below H10.out (HB9.out)) (Kd.C_below G10.out (HB9.out)) S10.out).mono ?_); rintro e w10 ⟨rfl, hb_⟩; rw [HD10.out]; have HB10 := Aside0.mk (HB9.out.trans (hb_.mono HB9.out.size)); clear hb_))
    go_ret
    exact ⟨by rw [HN.out]; rfl, HB10.out⟩
  have HN := Aside0.mk (show decide (a = b) = true from decide_eq_true (by obtain ⟨a0, a1, a2, a3, a4, a5, a6, a7, a8, a9, a10⟩ := a; obtain ⟨b0, b1, b2, b3, b4, b5, b6, b7, b8, b9, b10⟩ := b; have := Q0.out; have := Q1.out; have := Q2.out; have := Q3.out; have := Q4.out; have := Q5.out; have := Q6.out; have := Q7.out; have := Q8.out; simp_all)); have HD9 := Aside0.mk (decide_eq_true h9); have HD10 := Aside0.mk (decide_eq_true h10)
  clear h9 h10
  go_enter Try.func18, Try.ntmps18
  go_wp2_with (first | (go_at_call 32; (with_reducible refine (eqT_calls a.f9 b.f9 _ _ _ _ _ (Kd.C_below H9.out (((Below.refl w.heap.size w).alloc (Nat.le_refl _) _).alloc (by simp) _)) (Kd.C_below G9.out (((Below.refl w.heap.size w).alloc (Nat.le_refl _) _).alloc (by simp) _)) S9.out).mono ?_); rintro e w9 ⟨rfl, hb_⟩; rw [HD9.out]; have HB9 := Aside0.mk (Below.trans (((Below.refl w.heap.size w).alloc (Nat.le_refl _) _).alloc (by simp) _) (hb_.mono (by simp; omega))); have q10 : w9.cell? ⟨w.heap.size, 10, none⟩ = some (.slice A10 a.f10.length c10) := blk_cell (two_below hb_).1 10; have p10 : w9.cell? ⟨w.heap.size + 1, 10, none⟩ = some (.slice B10 b.f10.length d10) := blk_cell (two_below hb_).2 10; clear hb_) | (go_at_call 33; (with_reducible refine (eqQ_calls a.f10 b.f10 _ _ _ _ _ (Kd.C_below H10.out (HB9.out)) (Kd.C_below G10.out (HB9.out)) S10.out).mono ?_); rintro e w10 ⟨rfl, hb_⟩; rw [HD10.out]; have HB10 := Aside0.mk (HB9.out.trans (hb_.mono HB9.out.size)); clear hb_))
  go_ret
  exact ⟨by rw [HN.out]; rfl, HB10.out⟩
end Go.Proofs.Ytcfknakmamcinaa.Sa
-- Written by this session's xprint.py (the kit's print, with contracts proved by hand).
namespace Go.Proofs.Ytcfknakmamcinaa.X4
open Go.RowKit Go.Proofs.YtcfknakmamcinaaW.PrintWords Go.Proofs.YtcfknakmamcinaaW.PrintLast Go.Proofs.YtcfknakmamcinaaW.PrintMore
attribute [local go_sem] max2_int min2_int max_two min_two max_three min_three max_four min_four   -- for this text's walks alone
set_option linter.unusedVariables false
set_option linter.unusedSimpArgs false
-- NOT PRINTED: function 3 (careenlaw04_RecordPrints)
-- NOT PRINTED: function 4 (careenlaw04_RecordBack)
-- NOT PRINTED: function 5 (careenlaw04_RecordSame)
-- NOT PRINTED: function 6 (careenlaw04_RecordOne)
-- NOT PRINTED: function 7 (careenlaw04_RecordTold)
-- NOT PRINTED: function 8 (careenlaw04_RecordLong)
/-- A state of type 78 at block g of W; what its slices lead to came in by w0. -/
def IsS78 (w0 W : World) (g : Nat) (f0 : ByteArray) (f1 : Bool) : Prop := W.heap[g]? = some (.cells #[.string f0, .bool f1] 78 (0, 0)) ∧ w0.heap.size ≤ g
theorem IsS78.grown {w0 W : World} {g : Nat} {f0 : ByteArray} {f1 : Bool} {W1 : World} {row : Option Nat} (h : IsS78 w0 W g f0 f1) (hw : W.grownBy W1 row) (hne : some g ≠ row) : IsS78 w0 W1 g f0 f1 := by
  obtain ⟨hb, hg⟩ := h
  exact ⟨blk_grown hb hw hne, hg⟩
theorem IsS78.fresh {w0 W : World} {g : Nat} {f0 : ByteArray} {f1 : Bool} (h : IsS78 w0 W g f0 f1) : ∀ k, W.heap.size ≤ k → k ≠ g := by
  obtain ⟨hb, hg⟩ := h
  exact Kd.freshB hb
theorem IsS78.kept {w0 W : World} {g : Nat} {f0 : ByteArray} {f1 : Bool} {W1 : World} {S : Nat → Prop} (h : IsS78 w0 W g f0 f1) (hk : Kept W W1 S) (hne : ¬ S g) : IsS78 w0 W1 g f0 f1 := by
  obtain ⟨hb, hg⟩ := h
  exact ⟨blk_kept hb hk hne, hg⟩
theorem IsS78.below {w0 W : World} {g : Nat} {f0 : ByteArray} {f1 : Bool} {W1 : World} (h : IsS78 w0 W g f0 f1) (hw : Below W.heap.size W W1) : IsS78 w0 W1 g f0 f1 := h.grown (grown_of_below hw none) (by simp)
theorem IsS78.alloc {w0 W : World} {g : Nat} {f0 : ByteArray} {f1 : Bool} (h : IsS78 w0 W g f0 f1) (o : Obj) : IsS78 w0 (W.alloc o) g f0 f1 := h.below (below_alloc (Below.refl _ _) o)
theorem IsS78.drewN {w0 W : World} {g : Nat} {f0 : ByteArray} {f1 : Bool} (h : IsS78 w0 W g f0 f1) (m : Nat) : IsS78 w0 (W.drewN m) g f0 f1 := h
theorem IsS78.drew {w0 W : World} {g : Nat} {f0 : ByteArray} {f1 : Bool} (h : IsS78 w0 W g f0 f1) : IsS78 w0 W.drew g f0 f1 := h
theorem IsS78.apart {w0 W : World} {g : Nat} {f0 : ByteArray} {f1 : Bool} {α : Type} {d : Kd α} {e : Nat} {base : Nat} {ok : Nat → Prop} {v : Value} {xs : List α} (h : IsS78 w0 W g f0 f1) (ho : d.R e W base ok v xs) (ht : ∀ q, q ∈ e :: d.E → q ≠ 78) : d.R e W base (fun k => ok k ∧ k ≠ g) v xs := by
  obtain ⟨hb, hg⟩ := h
  exact Kd.R_types ho hb ht
theorem IsS78.own_ne {w0 W : World} {g : Nat} {f0 : ByteArray} {f1 : Bool} {α : Type} {d : Kd α} {e : Nat} {base : Nat} {ok : Nat → Prop} {v : Value} {xs : List α} (h : IsS78 w0 W g f0 f1) (ho : d.R e W base ok v xs) (ht : e ≠ 78) : some g ≠ v.ownBlock := by
  obtain ⟨hb, hg⟩ := h
  exact Kd.R_ne ho hb ht
theorem IsS78.lt {w0 W : World} {g : Nat} {f0 : ByteArray} {f1 : Bool} (h : IsS78 w0 W g f0 f1) : g < W.heap.size := by
  obtain ⟨hb, hg⟩ := h
  exact blk_lt hb
theorem IsS78.far {w0 W : World} {g : Nat} {f0 : ByteArray} {f1 : Bool} {p : Addr} (h : IsS78 w0 W g f0 f1) (hne : g ≠ p.block) (u : Value) : IsS78 w0 (W.setCell p u) g f0 f1 := by
  obtain ⟨hb, hg⟩ := h
  exact ⟨blk_far hb hne u, hg⟩
-- NOT PRINTED: function 19 (careenref04_Read)
-- NOT PRINTED: function 20 (record_All)
-- NOT PRINTED: function 21 (careenref04_All)
end Go.Proofs.Ytcfknakmamcinaa.X4
namespace Go.Proofs.Ytcfknakmamcinaa.Rp
open Go Go.RowKit Go.Proofs.YtcfknakmamcinaaW.PrintWords Go.Proofs.Ytcfknakmamcinaa.X4
set_option linter.unusedSimpArgs false
set_option linter.unusedVariables false
abbrev St := ByteArray × Bool
def takeI (x : St) (n : Nat) : ByteArray × St := if x.2 = true ∨ x.1.size < n then (strOfNums (List.replicate n 0), x.1, true) else (x.1.extract 0 n, x.1.extract n x.1.size, false)
def smallI (x : St) : Int × St := (bt (takeI x 1).1 0, (takeI x 1).2)
def numv (b : ByteArray) : Int := ((bt b 0 * 256 + bt b 1) * 256 + bt b 2) * 256 + bt b 3
def fourI (x : St) : Int × St := (numv (takeI x 4).1, (takeI x 4).2)
def rowTI (x : St) : S66 × St := (⟨(fourI x).1, (fourI (fourI x).2).1, (fourI (fourI (fourI x).2).2).1⟩, (fourI (fourI (fourI x).2).2).2)
def rowQI (x : St) : S68 × St := (⟨(smallI x).1, (fourI (smallI x).2).1⟩, (fourI (smallI x).2).2)
def rowsTI : Nat → St → List S66 × St
  | 0, x => ([], x)
  | n + 1, x => if (rowsTI n x).2.2 = true then rowsTI n x else ((rowsTI n x).1 ++ [(rowTI (rowsTI n x).2).1], (rowTI (rowsTI n x).2).2)
def rowsQI : Nat → St → List S68 × St
  | 0, x => ([], x)
  | n + 1, x => if (rowsQI n x).2.2 = true then rowsQI n x else ((rowsQI n x).1 ++ [(rowQI (rowsQI n x).2).1], (rowQI (rowsQI n x).2).2)
theorem rowsTI_bad {n m : Nat} {x : St} (h : (rowsTI n x).2.2 = true) (hm : n ≤ m) : rowsTI m x = rowsTI n x := by
  induction m with
  | zero => rw [show n = 0 by omega]
  | succ m ih =>
    by_cases e : n = m + 1
    · rw [e]
    · have h2 := ih (by omega)
      simp only [rowsTI]
      rw [h2, if_pos h]
theorem rowsQI_bad {n m : Nat} {x : St} (h : (rowsQI n x).2.2 = true) (hm : n ≤ m) : rowsQI m x = rowsQI n x := by
  induction m with
  | zero => rw [show n = 0 by omega]
  | succ m ih =>
    by_cases e : n = m + 1
    · rw [e]
    · have h2 := ih (by omega)
      simp only [rowsQI]
      rw [h2, if_pos h]
def recI1 (x : St) : S25 × St :=
  let t := fourI x; let v := fourI t.2; let pg := smallI v.2; let o := smallI pg.2; let n := smallI o.2; let b := takeI n.2 n.1.toNat; let f := takeI b.2 n.1.toNat
  (⟨1, t.1, pg.1, o.1, v.1, 0, 0, b.1, f.1, [], []⟩, f.2)
def recI2 (x : St) : S25 × St :=
  let t := fourI x; let v := fourI t.2; let z := fourI v.2; let pg := smallI z.2; let o := smallI pg.2; let n := smallI o.2; let f := takeI n.2 n.1.toNat
  (⟨2, t.1, pg.1, o.1, v.1, z.1, 0, ⟨#[]⟩, f.1, [], []⟩, f.2)
def recI3 (k : Int) (x : St) : S25 × St :=
  let t := fourI x; let v := fourI t.2
  (⟨k, t.1, 0, 0, v.1, 0, 0, ⟨#[]⟩, ⟨#[]⟩, [], []⟩, v.2)
def recI6 (x : St) : S25 × St :=
  let b := fourI x; let n := smallI b.2; let t := rowsTI n.1.toNat n.2; let m := smallI t.2; let q := rowsQI m.1.toNat m.2
  (⟨6, 0, 0, 0, 0, 0, b.1, ⟨#[]⟩, ⟨#[]⟩, t.1, q.1⟩, q.2)
def recI (x : St) : S25 × St :=
  if (smallI x).1 = 1 then recI1 (smallI x).2 else if (smallI x).1 = 2 then recI2 (smallI x).2 else if (smallI x).1 = 3 ∨ (smallI x).1 = 4 then recI3 (smallI x).1 (smallI x).2
  else if (smallI x).1 = 6 then recI6 (smallI x).2 else (⟨(smallI x).1, 0, 0, 0, 0, 0, 0, ⟨#[]⟩, ⟨#[]⟩, [], []⟩, (smallI x).2)
def zR : S25 := ⟨0, 0, 0, 0, 0, 0, 0, ⟨#[]⟩, ⟨#[]⟩, [], []⟩
end Go.Proofs.Ytcfknakmamcinaa.Rp
namespace Go.Proofs.Ytcfknakmamcinaa.Sa
open Go Go.RowKit Go.ChangeMaps Go.Proofs.Ytcfknakmamcinaa.Rp Go.Proofs.Ytcfknakmamcinaa.X4 Go.Proofs.YtcfknakmamcinaaW.PrintWords Go.Proofs.YtcfknakmamcinaaW.PrintLast Go.Proofs.YtcfknakmamcinaaW.PrintMore
set_option linter.unusedVariables false
set_option linter.unusedSimpArgs false
attribute [local go_sem high] eqA66 eqA68
set_option maxHeartbeats 4000000 in
set_option maxRecDepth 100000 in
theorem rsame_calls (a b : S25) (A9 : Option Addr) (c9 : Nat) (A10 : Option Addr) (c10 : Nat) (B9 : Option Addr) (d9 : Nat) (B10 : Option Addr) (d10 : Nat) (w : World)
    (h9 : Kd.C k66 w A9 a.f9.length a.f9) (h10 : Kd.C k68 w A10 a.f10.length a.f10) (g9 : Kd.C k66 w B9 b.f9.length b.f9) (g10 : Kd.C k68 w B10 b.f10.length b.f10) (s9 : a.f9.length ≤ 1000000) (s10 : a.f10.length ≤ 1000000) :
    Calls Try.prog 17 #[aggR a A9 c9 A10 c10, aggR b B9 d9 B10 d10] w fun e w' => e = .returned (.bool (decide (a = b))) ∧ Below w.heap.size w w' := by
  have hu := Try.underlying66; have hu2 := Try.underlying68
  have H9 := Aside0.mk h9; have H10 := Aside0.mk h10; have G9 := Aside0.mk g9; have G10 := Aside0.mk g10; have S9 := Aside0.mk s9; have S10 := Aside0.mk s10
  clear h9 h10 g9 g10 s9 s10
  by_cases h0 : a.f0 = b.f0
  rotate_left
  · have e0 : (a.f0 == b.f0) = false := by rw [beq_eq_false_iff_ne]; exact h0
    have n0 : (a.f0 != b.f0) = true := by rw [bne_iff_ne]; exact h0
    have HN := Aside0.mk (show decide (a = b) = false from decide_eq_false fun e => h0 (by rw [e]))
    clear h0
    go_enter Try.func17, Try.ntmps17
    go_wp2
    go_ret
    exact ⟨by rw [HN.out]; rfl, ((Below.refl w.heap.size w).alloc (Nat.le_refl _) _).alloc (by simp) _⟩
  have e0 : (a.f0 == b.f0) = true := by rw [beq_iff_eq, h0]
  have n0 : (a.f0 != b.f0) = false := by rw [bne_eq_false_iff_eq, h0]
  have Q0 := Aside0.mk h0; clear h0
  by_cases h1 : a.f1 = b.f1
  rotate_left
  · have e1 : (a.f1 == b.f1) = false := by rw [beq_eq_false_iff_ne]; exact h1
    have n1 : (a.f1 != b.f1) = true := by rw [bne_iff_ne]; exact h1
    have HN := Aside0.mk (show decide (a = b) = false from decide_eq_false fun e => h1 (by rw [e]))
    clear h1
    go_enter Try.func17, Try.ntmps17
    go_wp2
    go_ret
    exact ⟨by rw [HN.out]; rfl, ((Below.refl w.heap.size w).alloc (Nat.le_refl _) _).alloc (by simp) _⟩
  have e1 : (a.f1 == b.f1) = true := by rw [beq_iff_eq, h1]
  have n1 : (a.f1 != b.f1) = false := by rw [bne_eq_false_iff_eq, h1]
  have Q1 := Aside0.mk h1; clear h1
  by_cases h2 : a.f2 = b.f2
  rotate_left
  · have e2 : (a.f2 == b.f2) = false := by rw [beq_eq_false_iff_ne]; exact h2
    have n2 : (a.f2 != b.f2) = true := by rw [bne_iff_ne]; exact h2
    have HN := Aside0.mk (show decide (a = b) = false from decide_eq_false fun e => h2 (by rw [e]))
    clear h2
    go_enter Try.func17, Try.ntmps17
    go_wp2
    go_ret
    exact ⟨by rw [HN.out]; rfl, ((Below.refl w.heap.size w).alloc (Nat.le_refl _) _).alloc (by simp) _⟩
  have e2 : (a.f2 == b.f2) = true := by rw [beq_iff_eq, h2]
  have n2 : (a.f2 != b.f2) = false := by rw [bne_eq_false_iff_eq, h2]
  have Q2 := Aside0.mk h2; clear h2
  by_cases h3 : a.f3 = b.f3
  rotate_left
  · have e3 : (a.f3 == b.f3) = false := by rw [beq_eq_false_iff_ne]; exact h3
    have n3 : (a.f3 != b.f3) = true := by rw [bne_iff_ne]; exact h3
    have HN := Aside0.mk (show decide (a = b) = false from decide_eq_false fun e => h3 (by rw [e]))
    clear h3
    go_enter Try.func17, Try.ntmps17
    go_wp2
    go_ret
    exact ⟨by rw [HN.out]; rfl, ((Below.refl w.heap.size w).alloc (Nat.le_refl _) _).alloc (by simp) _⟩
  have e3 : (a.f3 == b.f3) = true := by rw [beq_iff_eq, h3]
  have n3 : (a.f3 != b.f3) = false := by rw [bne_eq_false_iff_eq, h3]
  have Q3 := Aside0.mk h3; clear h3
  by_cases h4 : a.f4 = b.f4
  rotate_left
  · have e4 : (a.f4 == b.f4) = false := by rw [beq_eq_false_iff_ne]; exact h4
    have n4 : (a.f4 != b.f4) = true := by rw [bne_iff_ne]; exact h4
    have HN := Aside0.mk (show decide (a = b) = false from decide_eq_false fun e => h4 (by rw [e]))
    clear h4
    go_enter Try.func17, Try.ntmps17
    go_wp2
    go_ret
    exact ⟨by rw [HN.out]; rfl, ((Below.refl w.heap.size w).alloc (Nat.le_refl _) _).alloc (by simp) _⟩
  have e4 : (a.f4 == b.f4) = true := by rw [beq_iff_eq, h4]
  have n4 : (a.f4 != b.f4) = false := by rw [bne_eq_false_iff_eq, h4]
  have Q4 := Aside0.mk h4; clear h4
  by_cases h5 : a.f5 = b.f5
  rotate_left
  · have e5 : (a.f5 == b.f5) = false := by rw [beq_eq_false_iff_ne]; exact h5
    have n5 : (a.f5 != b.f5) = true := by rw [bne_iff_ne]; exact h5
    have HN := Aside0.mk (show decide (a = b) = false from decide_eq_false fun e => h5 (by rw [e]))
    clear h5
    go_enter Try.func17, Try.ntmps17
    go_wp2
    go_ret
    exact ⟨by rw [HN.out]; rfl, ((Below.refl w.heap.size w).alloc (Nat.le_refl _) _).alloc (by simp) _⟩
  have e5 : (a.f5 == b.f5) = true := by rw [beq_iff_eq, h5]
  have n5 : (a.f5 != b.f5) = false := by rw [bne_eq_false_iff_eq, h5]
  have Q5 := Aside0.mk h5; clear h5
  by_cases h6 : a.f6 = b.f6
  rotate_left
  · have e6 : (a.f6 == b.f6) = false := by rw [beq_eq_false_iff_ne]; exact h6
    have n6 : (a.f6 != b.f6) = true := by rw [bne_iff_ne]; exact h6
    have HN := Aside0.mk (show decide (a = b) = false from decide_eq_false fun e => h6 (by rw [e]))
    clear h6
    go_enter Try.func17, Try.ntmps17
    go_wp2
    go_ret
    exact ⟨by rw [HN.out]; rfl, ((Below.refl w.heap.size w).alloc (Nat.le_refl _) _).alloc (by simp) _⟩
  have e6 : (a.f6 == b.f6) = true := by rw [beq_iff_eq, h6]
  have n6 : (a.f6 != b.f6) = false := by rw [bne_eq_false_iff_eq, h6]
  have Q6 := Aside0.mk h6; clear h6
  by_cases h7 : a.f7 = b.f7
  rotate_left
  · have e7 : (a.f7.toList == b.f7.toList) = false := by rw [beq_eq_false_iff_ne]; exact fun e => h7 ((toList_eq _ _).1 e)
    have n7 : (a.f7.toList != b.f7.toList) = true := by rw [bne_iff_ne]; exact fun e => h7 ((toList_eq _ _).1 e)
    have HN := Aside0.mk (show decide (a = b) = false from decide_eq_false fun e => h7 (by rw [e]))
    clear h7
    go_enter Try.func17, Try.ntmps17
    go_wp2
    go_ret
    exact ⟨by rw [HN.out]; rfl, ((Below.refl w.heap.size w).alloc (Nat.le_refl _) _).alloc (by simp) _⟩
  have e7 : (a.f7.toList == b.f7.toList) = true := by rw [beq_iff_eq, h7]
  have n7 : (a.f7.toList != b.f7.toList) = false := by rw [bne_eq_false_iff_eq, h7]
  have Q7 := Aside0.mk h7; clear h7
  by_cases h8 : a.f8 = b.f8
  rotate_left
  · have e8 : (a.f8.toList == b.f8.toList) = false := by rw [beq_eq_false_iff_ne]; exact fun e => h8 ((toList_eq _ _).1 e)
    have n8 : (a.f8.toList != b.f8.toList) = true := by rw [bne_iff_ne]; exact fun e => h8 ((toList_eq _ _).1 e)
    have HN := Aside0.mk (show decide (a = b) = false from decide_eq_false fun e => h8 (by rw [e]))
    clear h8
    go_enter Try.func17, Try.ntmps17
    go_wp2
    go_ret
    exact ⟨by rw [HN.out]; rfl, ((Below.refl w.heap.size w).alloc (Nat.le_refl _) _).alloc (by simp) _⟩
  have e8 : (a.f8.toList == b.f8.toList) = true := by rw [beq_iff_eq, h8]
  have n8 : (a.f8.toList != b.f8.toList) = false := by rw [bne_eq_false_iff_eq, h8]
  have Q8 := Aside0.mk h8; clear h8
  by_cases h9 : a.f9.length = b.f9.length
  rotate_left
  · have e9 : ((a.f9.length : Int) != (b.f9.length : Int)) = true := by rw [bne_iff_ne]; omega
    have n9 : (a.f9.length == b.f9.length) = false := by rw [beq_eq_false_iff_ne]; exact h9
    have HN := Aside0.mk (show decide (a = b) = false from decide_eq_false fun e => h9 (by rw [e]))
    clear h9
    go_enter Try.func17, Try.ntmps17
    go_wp2
    go_ret
    exact ⟨by rw [HN.out]; rfl, ((Below.refl w.heap.size w).alloc (Nat.le_refl _) _).alloc (by simp) _⟩
  have e9 : ((a.f9.length : Int) != (b.f9.length : Int)) = false := by rw [bne_eq_false_iff_eq]; omega
  have n9 : (a.f9.length == b.f9.length) = true := by rw [beq_iff_eq]; exact h9
  have HL9 := Aside0.mk h9; clear h9
  by_cases h10 : a.f10.length = b.f10.length
  rotate_left
  · have e10 : ((a.f10.length : Int) != (b.f10.length : Int)) = true := by rw [bne_iff_ne]; omega
    have n10 : (a.f10.length == b.f10.length) = false := by rw [beq_eq_false_iff_ne]; exact h10
    have HN := Aside0.mk (show decide (a = b) = false from decide_eq_false fun e => h10 (by rw [e]))
    clear h10
    go_enter Try.func17, Try.ntmps17
    go_wp2
    go_ret
    exact ⟨by rw [HN.out]; rfl, ((Below.refl w.heap.size w).alloc (Nat.le_refl _) _).alloc (by simp) _⟩
  have e10 : ((a.f10.length : Int) != (b.f10.length : Int)) = false := by rw [bne_eq_false_iff_eq]; omega
  have n10 : (a.f10.length == b.f10.length) = true := by rw [beq_iff_eq]; exact h10
  have HL10 := Aside0.mk h10; clear h10
  go_enter Try.func17, Try.ntmps17
  go_upto_region 4 with (fail)
  obtain ⟨W0, hW0, hB, hA_, hB_⟩ : ∃ W0, W0 = (w.alloc (.cells #[.int .i64 a.f0, .int .i64 a.f1, .int .i64 a.f2, .int .i64 a.f3, .int .i64 a.f4, .int .i64 a.f5, .int .i64 a.f6, .string a.f7, .string a.f8, .slice A9 a.f9.length c9, .slice A10 a.f10.length c10] 25)).alloc (.cells #[.int .i64 b.f0, .int .i64 b.f1, .int .i64 b.f2, .int .i64 b.f3, .int .i64 b.f4, .int .i64 b.f5, .int .i64 b.f6, .string b.f7, .string b.f8, .slice B9 b.f9.length d9, .slice B10 b.f10.length d10] 25) ∧ Below w.heap.size w W0 ∧ W0.heap[w.heap.size]? = some (.cells #[.int .i64 a.f0, .int .i64 a.f1, .int .i64 a.f2, .int .i64 a.f3, .int .i64 a.f4, .int .i64 a.f5, .int .i64 a.f6, .string a.f7, .string a.f8, .slice A9 a.f9.length c9, .slice A10 a.f10.length c10] 25 (0, 0)) ∧ W0.heap[w.heap.size + 1]? = some (.cells #[.int .i64 b.f0, .int .i64 b.f1, .int .i64 b.f2, .int .i64 b.f3, .int .i64 b.f4, .int .i64 b.f5, .int .i64 b.f6, .string b.f7, .string b.f8, .slice B9 b.f9.length d9, .slice B10 b.f10.length d10] 25 (0, 0)) := ⟨_, rfl, ((Below.refl w.heap.size w).alloc (Nat.le_refl _) _).alloc (by simp) _, (two_below (Below.refl _ _)).1, (two_below (Below.refl _ _)).2⟩
  rw [← hW0]
  clear hW0 e0 n0 e1 n1 e2 n2 e3 n3 e4 n4 e5 n5 e6 n6 e7 n7 e8 n8 e9 n9 e10 n10
  have HB := Aside0.mk hB
  have C9 := Aside0.mk (Kd.C_below H9.out hB); have C10 := Aside0.mk (Kd.C_below H10.out hB); have D9 := Aside0.mk (Kd.C_below G9.out hB); have D10 := Aside0.mk (Kd.C_below G10.out hB)
  have q9 : W0.cell? ⟨w.heap.size, 9, none⟩ = some (.slice A9 a.f9.length c9) := blk_cell hA_ 9
  have q10 : W0.cell? ⟨w.heap.size, 10, none⟩ = some (.slice A10 a.f10.length c10) := blk_cell hA_ 10
  have p9 : W0.cell? ⟨w.heap.size + 1, 9, none⟩ = some (.slice B9 b.f9.length d9) := blk_cell hB_ 9
  have p10 : W0.cell? ⟨w.heap.size + 1, 10, none⟩ = some (.slice B10 b.f10.length d10) := blk_cell hB_ 10
  clear hB hA_ hB_
  go_loopw [5] (fun v wr => ∃ k : Nat, v = .int .i64 k ∧ Aside0 (k ≤ a.f9.length) ∧ Aside0 (a.f9.take k = b.f9.take k) ∧ Aside0 (∃ m, wr = W0.drewN m)) (fun v _ => a.f9.length - (intOf v).toNat)
  case atStart => exact ⟨0, rfl, ⟨Nat.zero_le _⟩, ⟨rfl⟩, ⟨⟨0, rfl⟩⟩⟩
  case round =>
    obtain ⟨k, rfl, K, HT, HW⟩ := hrel
    obtain ⟨m, rfl⟩ := HW.out
    by_cases hlt : k < a.f9.length
    · have h1 : (k : Int) < (a.f9.length : Int) := by omega
      have h1b : (k : Int) < (b.f9.length : Int) := by have := HL9.out; omega
      have h2 : (0 : Int) ≤ (k : Int) := by omega
      have hly : k < b.f9.length := by have := HL9.out; omega
      have hwk : wrap64 ((k : Int) + 1) = ((k + 1 : Nat) : Int) := by have := S9.out; unfold wrap64; omega
      obtain ⟨ad, e_, x0, x1, x2⟩ := at_T66 C9.out k h2 h1
      obtain ⟨bd, e2_, y0, y1, y2⟩ := at_T66 D9.out k h2 h1b
      have hX : a.f9[k]? = some (rd_T66 a.f9 k) := by unfold rd_T66; rw [Int.toNat_natCast, List.getD_eq_getElem?_getD, List.getElem?_eq_getElem (by omega)]; rfl
      have hY : b.f9[k]? = some (rd_T66 b.f9 k) := by unfold rd_T66; rw [Int.toNat_natCast, List.getD_eq_getElem?_getD, List.getElem?_eq_getElem (by omega)]; rfl
      have HX := Aside0.mk hX; have HY := Aside0.mk hY; clear hX hY
      simp only [Int.toNat_natCast] at x0 x1 x2 y0 y1 y2
      subst e_; subst e2_
      generalize rd_T66 a.f9 k = x at *
      generalize rd_T66 b.f9 k = y at *
      have HLT := Aside0.mk hlt
      by_cases hxy : x = y
      · have n1 : (!(x.f0 == y.f0) || (!(x.f1 == y.f1) || (!(x.f2 == y.f2)))) = false := (neT_iff x y).2 hxy
        have HXY := Aside0.mk hxy; clear hxy hlt
        go_wp2
        go_quiet (fail)
        go_wp2
        (try simp only [hwk])
        refine ⟨⟨k + 1, rfl, ⟨HLT.out⟩, ⟨take_eqT HT.out HX.out (by rw [HXY.out]; exact HY.out)⟩, ⟨⟨_, rfl⟩⟩⟩, ?_⟩
        have := HLT.out
        show a.f9.length - (intOf (.int .i64 ((k + 1 : Nat) : Int))).toNat < a.f9.length - (intOf (.int .i64 (k : Int))).toNat
        simp only [intOf]; omega
      · have n1 : (!(x.f0 == y.f0) || (!(x.f1 == y.f1) || (!(x.f2 == y.f2)))) = true := by rw [← Bool.not_eq_false, neT_iff]; exact hxy
        have HN := Aside0.mk (show decide (a = b) = false from decide_eq_false fun e => take_neT HX.out HY.out hxy (by rw [e]))
        clear hxy hlt
        go_wp2
        go_quiet (fail)
        go_wp2
        go_ret
        exact ⟨by rw [HN.out]; rfl, pw_below_drewN (pw_below_drewN HB.out _) _⟩
    · obtain rfl : k = a.f9.length := by have := K.out; omega
      have HQ9 := Aside0.mk (show a.f9 = b.f9 by have h := HT.out; rwa [List.take_length, HL9.out, List.take_length] at h)
      clear hlt
      go_upto_region 9 with (fail)
      go_loopw [6] (fun v wr => ∃ k : Nat, v = .int .i64 k ∧ Aside0 (k ≤ a.f10.length) ∧ Aside0 (a.f10.take k = b.f10.take k) ∧ Aside0 (∃ m, wr = W0.drewN m)) (fun v _ => a.f10.length - (intOf v).toNat)
      case atStart => exact ⟨0, rfl, ⟨Nat.zero_le _⟩, ⟨rfl⟩, ⟨⟨_, rfl⟩⟩⟩
      case round =>
        obtain ⟨k, rfl, K, HT, HW⟩ := hrel
        obtain ⟨m, rfl⟩ := HW.out
        by_cases hlt : k < a.f10.length
        · have h1 : (k : Int) < (a.f10.length : Int) := by omega
          have h1b : (k : Int) < (b.f10.length : Int) := by have := HL10.out; omega
          have h2 : (0 : Int) ≤ (k : Int) := by omega
          have hly : k < b.f10.length := by have := HL10.out; omega
          have hwk : wrap64 ((k : Int) + 1) = ((k + 1 : Nat) : Int) := by have := S10.out; unfold wrap64; omega
          obtain ⟨ad, e_, x0, x1⟩ := at_T68 C10.out k h2 h1
          obtain ⟨bd, e2_, y0, y1⟩ := at_T68 D10.out k h2 h1b
          have hX : a.f10[k]? = some (rd_T68 a.f10 k) := by unfold rd_T68; rw [Int.toNat_natCast, List.getD_eq_getElem?_getD, List.getElem?_eq_getElem (by omega)]; rfl
          have hY : b.f10[k]? = some (rd_T68 b.f10 k) := by unfold rd_T68; rw [Int.toNat_natCast, List.getD_eq_getElem?_getD, List.getElem?_eq_getElem (by omega)]; rfl
          have HX := Aside0.mk hX; have HY := Aside0.mk hY; clear hX hY
          simp only [Int.toNat_natCast] at x0 x1 y0 y1
          subst e_; subst e2_
          generalize rd_T68 a.f10 k = x at *
          generalize rd_T68 b.f10 k = y at *
          have HLT := Aside0.mk hlt
          by_cases hxy : x = y
          · have n1 : (!(x.f0 == y.f0) || (!(x.f1 == y.f1))) = false := (neQ_iff x y).2 hxy
            have HXY := Aside0.mk hxy; clear hxy hlt
            go_wp2
            go_quiet (fail)
            go_wp2
            (try simp only [hwk])
            refine ⟨⟨k + 1, rfl, ⟨HLT.out⟩, ⟨take_eqQ HT.out HX.out (by rw [HXY.out]; exact HY.out)⟩, ⟨⟨_, rfl⟩⟩⟩, ?_⟩
            have := HLT.out
            show a.f10.length - (intOf (.int .i64 ((k + 1 : Nat) : Int))).toNat < a.f10.length - (intOf (.int .i64 (k : Int))).toNat
            simp only [intOf]; omega
          · have n1 : (!(x.f0 == y.f0) || (!(x.f1 == y.f1))) = true := by rw [← Bool.not_eq_false, neQ_iff]; exact hxy
            have HN := Aside0.mk (show decide (a = b) = false from decide_eq_false fun e => take_neQ HX.out HY.out hxy (by rw [e]))
            clear hxy hlt
            go_wp2
            go_quiet (fail)
            go_wp2
            go_ret
            exact ⟨by rw [HN.out]; rfl, pw_below_drewN (pw_below_drewN HB.out _) _⟩
        · obtain rfl : k = a.f10.length := by have := K.out; omega
          have HQ10 := Aside0.mk (show a.f10 = b.f10 by have h := HT.out; rwa [List.take_length, HL10.out, List.take_length] at h)
          clear hlt
          have HN := Aside0.mk (show decide (a = b) = true from decide_eq_true (by obtain ⟨a0, a1, a2, a3, a4, a5, a6, a7, a8, a9, a10⟩ := a; obtain ⟨b0, b1, b2, b3, b4, b5, b6, b7, b8, b9, b10⟩ := b; have := Q0.out; have := Q1.out; have := Q2.out; have := Q3.out; have := Q4.out; have := Q5.out; have := Q6.out; have := Q7.out; have := Q8.out; have := HQ9.out; have := HQ10.out; simp_all))
          go_wp2
          go_ret
          exact ⟨by rw [HN.out]; rfl, pw_below_drewN HB.out _⟩
end Go.Proofs.Ytcfknakmamcinaa.Sa
namespace Go.Proofs.Ytcfknakmamcinaa.Opens
open Go Go.RowKit Go.ChangeShapes Go.WideShapes Go.Deep Go.Proofs.YtcfknakmamcinaaW.PrintWords
set_option linter.unusedVariables false
variable {P : Program}
/-- Whatever reads as data at type t is a value of kind d that meets Wf. -/
def Opens (P : Program) (t : TypeId) {α : Type} (d : Kd α) (Wf : α → Prop) : Prop :=
  ∀ {H : Type} {enc : TypeId × Value → H} {w : World} {fuel : Nat} {cs : List Value} {x : DataW H × List MemPlace},
    DataW.trod enc P w 0 (fun _ => true) true fuel t cs = some x → (∀ n ∈ DataW.weights P t x.1, n ≤ reachBytes) → ∃ v : α, d.K w v cs ∧ Wf v
theorem opens_int {t : TypeId} {k : IntKind} (ht : P.underlying t = some (.int k)) : Opens P t (Kd.int k) (fun n => (Lit.int k n).wf = true) := by
  intro H enc w fuel cs x h _
  obtain ⟨n, rfl, _, hw⟩ := DataW.trod_int ht h
  exact ⟨n, rfl, hw⟩
theorem opens_string {t : TypeId} (ht : P.underlying t = some .string) : Opens P t Kd.string (fun s => s.size ≤ 140737488351232) := by
  intro H enc w fuel cs x h hw
  obtain ⟨s, rfl, rfl, _⟩ := DataW.trod_string ht h
  refine ⟨s, rfl, ?_⟩
  have := hw s.data.toList.length (by simp [DataW.weights])
  simpa [reachBytes] using this
theorem weightsAll_mem {H : Type} (e : TypeId) : ∀ (l : List (DataW H)) (d : DataW H), d ∈ l → ∀ n ∈ d.weights P e, n ∈ DataW.weightsAll P e l
  | [], d, h, _, _ => by cases h
  | a :: r, d, h, n, hn => by
    simp only [DataW.weightsAll, List.mem_append]
    rcases List.mem_cons.1 h with rfl | h
    · exact .inl hn
    · exact .inr (weightsAll_mem e r d h n hn)
theorem list_of {α : Type} : ∀ (n : Nat) (Q : Nat → α → Prop), (∀ i, i < n → ∃ v, Q i v) → ∃ l : List α, l.length = n ∧ ∀ i v, l[i]? = some v → Q i v
  | 0, _, _ => ⟨[], rfl, fun i v h => by simp at h⟩
  | n + 1, Q, h => by
    obtain ⟨l, hl, hq⟩ := list_of n Q (fun i hi => h i (by omega))
    obtain ⟨v, hv⟩ := h n (by omega)
    refine ⟨l ++ [v], by simp [hl], fun i u hi => ?_⟩
    rw [List.getElem?_append] at hi
    split at hi
    · exact hq i u hi
    · have : i - l.length = 0 := by
        by_cases e : i - l.length = 0
        · exact e
        · rw [List.getElem?_eq_none (by simp; omega)] at hi; cases hi
      rw [this] at hi
      simp only [List.getElem?_cons_zero, Option.some.injEq] at hi
      subst hi
      obtain rfl : i = n := by omega
      exact hv
theorem opens_slice {t e : TypeId} {α : Type} {d : Kd α} {Wf : α → Prop} (ht : P.underlying t = some (.slice e)) (hsz : P.cellsOf e = d.sz) (O : Opens P e d Wf) :
    Opens P t (Kd.slice e d) (fun l => l.length ≤ maxLen ∧ l.length * P.bytesOf e ≤ 140737488351232 ∧ ∀ x ∈ l, Wf x) := by
  intro H enc w fuel cs x h hw
  rcases open_slice ht h with ⟨rfl, rfl⟩ | ⟨a, len, cap, m, n, D, Pl, rfl, _, hl, hm, hmm, rfl, hx⟩
  · exact ⟨[], ⟨none, 0, rfl, Nat.le_refl _, rfl, by simp, fun h => absurd h (by simp)⟩, by simp, by simp, by simp⟩
  · simp only [if_true] at hmm
    subst hmm
    have each : ∀ i, i < len → ∃ v : α, (∃ c : List Value, c.length = d.sz ∧ d.K w v c ∧ ∀ j u, c[j]? = some u → w.cell? (a.add (i * d.sz + j)) = some u) ∧ Wf v := by
      intro i hi
      obtain ⟨cs', hc, ht'⟩ := hx i (by omega)
      have hwi : ∀ n ∈ DataW.weights P e (D i), n ≤ reachBytes := by
        intro q hq
        refine hw q ?_
        simp only [DataW.weights, ht, List.mem_cons, List.mem_append]
        exact .inr (.inl (weightsAll_mem e _ (D i) (List.mem_map.2 ⟨i, List.mem_range.2 hi, rfl⟩) q hq))
      obtain ⟨v, hk, hf⟩ := O ht' hwi
      obtain ⟨_, hcl, hat⟩ := World.cells?_some hc
      refine ⟨v, ⟨cs', by rw [hcl, hsz], hk, fun j u hj => ?_⟩, hf⟩
      have hjl : j < P.cellsOf e := by rw [← hcl]; exact (List.getElem?_eq_some_iff.1 hj).1
      have h1 := hat j hjl
      rw [hj] at h1
      rw [← hsz, ← h1]
      rw [Addr.add_add]
    obtain ⟨l, hll, hlq⟩ := list_of len _ each
    refine ⟨l, ⟨some a, m, by rw [hll], by omega, hll.symm ▸ rfl, by unfold maxLen at hm; omega, fun _ => ⟨a, rfl, fun j p hj => (hlq j p hj).1⟩⟩, by unfold maxLen at *; omega, ?_, fun v hv => ?_⟩
    · have h1 := hw ((len + (m - len)) * P.bytesOf e) (by simp [DataW.weights, ht])
      have h2 : l.length * P.bytesOf e ≤ (len + (m - len)) * P.bytesOf e := Nat.mul_le_mul_right _ (by omega)
      unfold reachBytes at h1
      omega
    · obtain ⟨i, hi⟩ := List.getElem?_of_mem hv
      exact (hlq i v hi).2
theorem opens_iso {t : TypeId} {α β : Type} {d : Kd α} {Wf : α → Prop} (O : Opens P t d Wf) (f : β → α) (g : α → β) (hfg : ∀ a, f (g a) = a) : Opens P t (Kd.iso d f) (fun b => Wf (f b)) := by
  intro H enc w fuel cs x h hw
  obtain ⟨v, hk, hf⟩ := O h hw
  refine ⟨g v, ?_, ?_⟩
  · show d.K w (f (g v)) cs
    rw [hfg]; exact hk
  · show Wf (f (g v))
    rw [hfg]; exact hf
/-- Fields, one behind the other. -/
def OpensF (P : Program) (ts : List TypeId) {α : Type} (d : Kd α) (Wf : α → Prop) : Prop :=
  ∀ {H : Type} {enc : TypeId × Value → H} {w : World} {fuel : Nat} {css : List (List Value)} {xs : List (DataW H × List MemPlace)},
    css.length = ts.length → xs.length = ts.length → (∀ (i : Nat) (t : TypeId) (cs : List Value) (x : DataW H × List MemPlace), ts[i]? = some t → css[i]? = some cs → xs[i]? = some x → DataW.trod enc P w 0 (fun _ => true) true fuel t cs = some x ∧ ∀ n ∈ DataW.weights P t x.1, n ≤ reachBytes) →
    ∃ v : α, d.K w v css.flatten ∧ Wf v
theorem opensF_one {t : TypeId} {α : Type} {d : Kd α} {Wf : α → Prop} (O : Opens P t d Wf) : OpensF P [t] d Wf := by
  intro H enc w fuel css xs hc hx h
  match css, xs, hc, hx with
  | [cs], [x], _, _ =>
    obtain ⟨h1, h2⟩ := h 0 t cs x rfl rfl rfl
    obtain ⟨v, hk, hf⟩ := O h1 h2
    exact ⟨v, by simpa using hk, hf⟩
theorem opensF_cons {t : TypeId} {ts : List TypeId} {α β : Type} {d : Kd α} {d' : Kd β} {Wf : α → Prop} {Wf' : β → Prop} (O : Opens P t d Wf) (O' : OpensF P ts d' Wf') :
    OpensF P (t :: ts) (Kd.pair d d') (fun x => Wf x.1 ∧ Wf' x.2) := by
  intro H enc w fuel css xs hc hx h
  match css, xs, hc, hx with
  | cs :: css, x :: xs, hc, hx =>
    obtain ⟨h1, h2⟩ := h 0 t cs x rfl rfl rfl
    obtain ⟨v, hk, hf⟩ := O h1 h2
    obtain ⟨v', hk', hf'⟩ := O' (css := css) (xs := xs) (by simpa using hc) (by simpa using hx) (fun i t' cs' x' a b c => h (i + 1) t' cs' x' (by simpa using a) (by simpa using b) (by simpa using c))
    exact ⟨(v, v'), ⟨cs, css.flatten, by simp, hk, hk'⟩, hf, hf'⟩
/-- Fields' places: each begins where the one ahead of it ends. -/
def placed (P : Program) : Nat → List Field → Bool
  | _, [] => true
  | o, f :: fs => f.offset == o && placed P (o + P.cellsOf f.type) fs
def total (P : Program) : List Field → Nat
  | [] => 0
  | f :: fs => P.cellsOf f.type + total P fs
theorem cut_flatten (P : Program) : ∀ (fs : List Field) (o : Nat) (cs : List Value), placed P o fs = true → cs.length = o + total P fs → (fs.map fun f => (cs.drop f.offset).take (P.cellsOf f.type)).flatten = cs.drop o
  | [], o, cs, _, hl => by simp only [List.map_nil, List.flatten_nil, total, Nat.add_zero] at *; rw [← hl, List.drop_length]
  | f :: fs, o, cs, hp, hl => by
    simp only [placed, Bool.and_eq_true, beq_iff_eq] at hp
    simp only [total] at hl
    simp only [List.map_cons, List.flatten_cons, hp.1]
    rw [cut_flatten P fs (o + P.cellsOf f.type) cs hp.2 (by omega), ← List.drop_drop, List.take_append_drop]
theorem opens_struct {t : TypeId} {fs : Array Field} {α : Type} {d : Kd α} {Wf : α → Prop} (ht : P.underlying t = some (.struct fs)) (hp : placed P 0 fs.toList = true) (htot : P.cellsOf t = total P fs.toList)
    (O : OpensF P (fs.toList.map (·.type)) d Wf) : Opens P t d Wf := by
  intro H enc w fuel cs x h hw
  obtain ⟨xs, n, rfl, rfl, hlen, hxl, hf⟩ := DataW.trod_struct ht h
  have hx2 : xs.length = (fs.toList.map (·.type)).length := by simpa using hxl
  obtain ⟨v, hk, hwf⟩ := O (w := w) (fuel := n) (css := fs.toList.map fun f => (cs.drop f.offset).take (P.cellsOf f.type)) (xs := xs) (by simp) hx2 (by
    intro i t' cs' x' ha hb hc
    rw [List.getElem?_map] at ha hb
    cases hfi : fs.toList[i]? with
    | none => rw [hfi] at ha; cases ha
    | some f =>
      rw [hfi] at ha hb
      simp only [Option.map_some, Option.some.injEq] at ha hb
      subst ha; subst hb
      have h1 := hf i f (by simpa using hfi)
      rw [h1]
      refine ⟨hc, fun q hq => hw q ?_⟩
      simp only [DataW.weights, ht]
      exact DataW.weights_mem_each (j := i) (t := f.type) (d := x'.1) (by rw [List.getElem?_map, hfi]; rfl) (by rw [List.getElem?_map, hc]; rfl) q hq)
  rw [cut_flatten P fs.toList 0 cs hp (by rw [hlen, htot]; omega)] at hk
  exact ⟨v, by simpa using hk, hwf⟩
end Go.Proofs.Ytcfknakmamcinaa.Opens
