import Derived.Test.YtcfknakmamcinaaProg
import Derived.Below
import Derived.Deep.Draws
import Derived.Deep.AppendLies
import Derived.Maps.AppendAt
import Derived.OwnWalk
import Derived.Laws.BytesArg
import Derived.Laws.MakeOwn
import Derived.Laws.OwnMore
import Derived.Deep.OwnRows
import Derived.Tactics
import Derived.Lib.ConvBytes
import Derived.Laws.Slices
import Derived.WalkKit
import Derived.KernelRfl
import Derived.RowKit3
import Derived.Deep.LoopGhost
import Derived.Deep.QuietTactic
import Derived.BigQuiet
import Derived.WideLaws
import Derived.Deep.DeepCutAuto
import Derived.Deep.CutBlock
import Derived.Deep.RegionHeld3
import Derived.Laws.Rows
import Derived.Lib.AppendStr
import Derived.ArgAppend
import Derived.Laws.IdiomCopy
import Derived.OrdersHeld
import Derived.Laws.BitsLemmas
import Derived.RowKit
import Derived.Lib.BufferWrite
import Derived.Lib.SlBytesRow
import Derived.Maps.Keyed
import Derived.Laws.IdiomRangeMap
import Derived.Laws.AppendOwn
import Derived.WalkLawsBesides
import Derived.Lib.Builder
import Derived.Lib.UnsafeStr
import Derived.Laws.Externs
import Derived.RegionTactic
import Derived.Deep.RegionLaw
import Derived.Defers
import Derived.Recover
import Derived.Laws.IdiomStrings
import Derived.IntWalk
import Derived.ProofKit
import Derived.OpenShut
import Derived.ChangeOld
import Derived.SizedLaws
import Derived.Deep.Slices
import Derived.Deep.Fields
import Derived.ChangeSame
import Derived.Test.YtcfknakmamcinaaQCZ0
import Derived.Test.YtcfknakmamcinaaQCZ1
-- Written by this session's xprint.py (the kit's print, with contracts proved by hand).
namespace Go.Proofs.Ytcfknakmamcinaa.X4
open Go.RowKit Go.Proofs.YtcfknakmamcinaaW.PrintWords Go.Proofs.YtcfknakmamcinaaW.PrintLast Go.Proofs.YtcfknakmamcinaaW.PrintMore
attribute [local go_sem] max2_int min2_int max_two min_two max_three min_three max_four min_four   -- for this text's walks alone
set_option linter.unusedVariables false
set_option linter.unusedSimpArgs false
def errW : Option Int → Value
  | none => .nilIface
  | some c => .iface 0 (.int .i64 c)
theorem errW_none : errW none = .nilIface := rfl
theorem errW_some (c : Int) : errW (some c) = .iface 0 (.int .i64 c) := rfl
theorem info5 : (Try.prog.info? 5).map (fun i => (i.zero, i.size, i.bytes)) = some (some (.int .u8 0), 1, 1) := by kernel_rfl
-- the values' own types
structure S66 where
  f0 : Int
  f1 : Int
  f2 : Int
def z66 : S66 := ⟨(0 : Int), (0 : Int), (0 : Int)⟩
def k66 : Kd S66 := Kd.iso (Kd.pair (Kd.int .i64) (Kd.pair (Kd.int .i64) (Kd.int .i64))) (fun x : S66 => (x.f0, x.f1, x.f2))
theorem k66_open {w : World} {x : S66} {cs : List Value} (h : k66.K w x cs) : cs = [.int .i64 x.f0, .int .i64 x.f1, .int .i64 x.f2] := by
  obtain ⟨_, _, rfl, rfl, ⟨_, _, rfl, rfl, rfl⟩⟩ := h
  exact rfl
theorem k66_mkM (w : World) (base : Nat) (ok : Nat → Prop) (x : S66)  : k66.M w base ok x [.int .i64 x.f0, .int .i64 x.f1, .int .i64 x.f2] := ⟨[.int .i64 x.f0], [.int .i64 x.f1, .int .i64 x.f2], rfl, rfl, ⟨[.int .i64 x.f1], [.int .i64 x.f2], rfl, rfl, rfl⟩⟩
def rd_T66 (xs : List S66) (i : Int) : S66 := xs.getD i.toNat z66
theorem at_T66 {w : World} {A : Option Addr} {n : Nat} {xs : List S66} (h : Kd.C k66 w A n xs) (i : Int) (h0 : 0 ≤ i) (h1 : i < n) : ∃ ad , A = some ad ∧ w.cell? (ad.add (i.toNat * 3)) = some (.int .i64 (rd_T66 xs i).f0) ∧ w.cell? ⟨(ad.add (i.toNat * 3)).block, (ad.add (i.toNat * 3)).off + 1, none⟩ = some (.int .i64 (rd_T66 xs i).f1) ∧ w.cell? ⟨(ad.add (i.toNat * 3)).block, (ad.add (i.toNat * 3)).off + 2, none⟩ = some (.int .i64 (rd_T66 xs i).f2) := by
  obtain ⟨ad, c, e, _, hK, hc0⟩ := Kd.C_get h z66 i h0 h1
  have hc : ∀ j u, c[j]? = some u → w.cell? (ad.add (i.toNat * 3 + j)) = some u := hc0
  obtain rfl := k66_open hK
  exact ⟨ad, e, hc 0 _ rfl, by rw [← add_field _ _ 1 (by omega)]; exact hc 1 _ rfl, by rw [← add_field _ _ 2 (by omega)]; exact hc 2 _ rfl⟩
structure S68 where
  f0 : Int
  f1 : Int
def z68 : S68 := ⟨(0 : Int), (0 : Int)⟩
def k68 : Kd S68 := Kd.iso (Kd.pair (Kd.int .i64) (Kd.int .i64)) (fun x : S68 => (x.f0, x.f1))
theorem k68_open {w : World} {x : S68} {cs : List Value} (h : k68.K w x cs) : cs = [.int .i64 x.f0, .int .i64 x.f1] := by
  obtain ⟨_, _, rfl, rfl, rfl⟩ := h
  exact rfl
theorem k68_mkM (w : World) (base : Nat) (ok : Nat → Prop) (x : S68)  : k68.M w base ok x [.int .i64 x.f0, .int .i64 x.f1] := ⟨[.int .i64 x.f0], [.int .i64 x.f1], rfl, rfl, rfl⟩
def rd_T68 (xs : List S68) (i : Int) : S68 := xs.getD i.toNat z68
theorem at_T68 {w : World} {A : Option Addr} {n : Nat} {xs : List S68} (h : Kd.C k68 w A n xs) (i : Int) (h0 : 0 ≤ i) (h1 : i < n) : ∃ ad , A = some ad ∧ w.cell? (ad.add (i.toNat * 2)) = some (.int .i64 (rd_T68 xs i).f0) ∧ w.cell? ⟨(ad.add (i.toNat * 2)).block, (ad.add (i.toNat * 2)).off + 1, none⟩ = some (.int .i64 (rd_T68 xs i).f1) := by
  obtain ⟨ad, c, e, _, hK, hc0⟩ := Kd.C_get h z68 i h0 h1
  have hc : ∀ j u, c[j]? = some u → w.cell? (ad.add (i.toNat * 2 + j)) = some u := hc0
  obtain rfl := k68_open hK
  exact ⟨ad, e, hc 0 _ rfl, by rw [← add_field _ _ 1 (by omega)]; exact hc 1 _ rfl⟩
structure S25 where
  f0 : Int
  f1 : Int
  f2 : Int
  f3 : Int
  f4 : Int
  f5 : Int
  f6 : Int
  f7 : ByteArray
  f8 : ByteArray
  f9 : (List S66)
  f10 : (List S68)
def z25 : S25 := ⟨(0 : Int), (0 : Int), (0 : Int), (0 : Int), (0 : Int), (0 : Int), (0 : Int), (⟨#[]⟩ : ByteArray), (⟨#[]⟩ : ByteArray), ([] : List S66), ([] : List S68)⟩
def k25 : Kd S25 := Kd.iso (Kd.pair (Kd.int .i64) (Kd.pair (Kd.int .i64) (Kd.pair (Kd.int .i64) (Kd.pair (Kd.int .i64) (Kd.pair (Kd.int .i64) (Kd.pair (Kd.int .i64) (Kd.pair (Kd.int .i64) (Kd.pair Kd.string (Kd.pair Kd.string (Kd.pair (Kd.slice 66 k66) (Kd.slice 68 k68))))))))))) (fun x : S25 => (x.f0, x.f1, x.f2, x.f3, x.f4, x.f5, x.f6, x.f7, x.f8, x.f9, x.f10))
theorem k25_open {w : World} {x : S25} {cs : List Value} (h : k25.K w x cs) : ∃ A9 c9 A10 c10, cs = [.int .i64 x.f0, .int .i64 x.f1, .int .i64 x.f2, .int .i64 x.f3, .int .i64 x.f4, .int .i64 x.f5, .int .i64 x.f6, .string x.f7, .string x.f8, .slice A9 x.f9.length c9, .slice A10 x.f10.length c10] ∧ x.f9.length ≤ c9 ∧ k66.C w A9 x.f9.length x.f9 ∧ x.f10.length ≤ c10 ∧ k68.C w A10 x.f10.length x.f10 := by
  obtain ⟨_, _, rfl, rfl, ⟨_, _, rfl, rfl, ⟨_, _, rfl, rfl, ⟨_, _, rfl, rfl, ⟨_, _, rfl, rfl, ⟨_, _, rfl, rfl, ⟨_, _, rfl, rfl, ⟨_, _, rfl, rfl, ⟨_, _, rfl, rfl, ⟨_, _, rfl, ⟨A9, c9, rfl, l9, g9⟩, ⟨A10, c10, rfl, l10, g10⟩⟩⟩⟩⟩⟩⟩⟩⟩⟩⟩ := h
  exact ⟨A9, c9, A10, c10, rfl, l9, g9, l10, g10⟩
theorem k25_mkM (w : World) (base : Nat) (ok : Nat → Prop) (x : S25) {v9 : Value} (g9 : k66.R 66 w base ok v9 x.f9) {v10 : Value} (g10 : k68.R 68 w base ok v10 x.f10) : k25.M w base ok x [.int .i64 x.f0, .int .i64 x.f1, .int .i64 x.f2, .int .i64 x.f3, .int .i64 x.f4, .int .i64 x.f5, .int .i64 x.f6, .string x.f7, .string x.f8, v9, v10] := ⟨[.int .i64 x.f0], [.int .i64 x.f1, .int .i64 x.f2, .int .i64 x.f3, .int .i64 x.f4, .int .i64 x.f5, .int .i64 x.f6, .string x.f7, .string x.f8, v9, v10], rfl, rfl, ⟨[.int .i64 x.f1], [.int .i64 x.f2, .int .i64 x.f3, .int .i64 x.f4, .int .i64 x.f5, .int .i64 x.f6, .string x.f7, .string x.f8, v9, v10], rfl, rfl, ⟨[.int .i64 x.f2], [.int .i64 x.f3, .int .i64 x.f4, .int .i64 x.f5, .int .i64 x.f6, .string x.f7, .string x.f8, v9, v10], rfl, rfl, ⟨[.int .i64 x.f3], [.int .i64 x.f4, .int .i64 x.f5, .int .i64 x.f6, .string x.f7, .string x.f8, v9, v10], rfl, rfl, ⟨[.int .i64 x.f4], [.int .i64 x.f5, .int .i64 x.f6, .string x.f7, .string x.f8, v9, v10], rfl, rfl, ⟨[.int .i64 x.f5], [.int .i64 x.f6, .string x.f7, .string x.f8, v9, v10], rfl, rfl, ⟨[.int .i64 x.f6], [.string x.f7, .string x.f8, v9, v10], rfl, rfl, ⟨[.string x.f7], [.string x.f8, v9, v10], rfl, rfl, ⟨[.string x.f8], [v9, v10], rfl, rfl, ⟨[v9], [v10], rfl, ⟨v9, rfl, g9⟩, ⟨v10, rfl, g10⟩⟩⟩⟩⟩⟩⟩⟩⟩⟩⟩
structure S49 where
  f0 : Int
  f1 : S25
def z49 : S49 := ⟨(0 : Int), z25⟩
def k49 : Kd S49 := Kd.iso (Kd.pair (Kd.int .i64) k25) (fun x : S49 => (x.f0, x.f1))
theorem k49_open {w : World} {x : S49} {cs : List Value} (h : k49.K w x cs) : ∃ A10 c10 A11 c11, cs = [.int .i64 x.f0, .int .i64 x.f1.f0, .int .i64 x.f1.f1, .int .i64 x.f1.f2, .int .i64 x.f1.f3, .int .i64 x.f1.f4, .int .i64 x.f1.f5, .int .i64 x.f1.f6, .string x.f1.f7, .string x.f1.f8, .slice A10 x.f1.f9.length c10, .slice A11 x.f1.f10.length c11] ∧ x.f1.f9.length ≤ c10 ∧ k66.C w A10 x.f1.f9.length x.f1.f9 ∧ x.f1.f10.length ≤ c11 ∧ k68.C w A11 x.f1.f10.length x.f1.f10 := by
  obtain ⟨_, _, rfl, rfl, s1⟩ := h
  obtain ⟨A10, c10, A11, c11, rfl, l10, g10, l11, g11⟩ := k25_open s1
  exact ⟨A10, c10, A11, c11, rfl, l10, g10, l11, g11⟩
theorem k49_mkM (w : World) (base : Nat) (ok : Nat → Prop) (x : S49) {v10 : Value} (g10 : k66.R 66 w base ok v10 x.f1.f9) {v11 : Value} (g11 : k68.R 68 w base ok v11 x.f1.f10) : k49.M w base ok x [.int .i64 x.f0, .int .i64 x.f1.f0, .int .i64 x.f1.f1, .int .i64 x.f1.f2, .int .i64 x.f1.f3, .int .i64 x.f1.f4, .int .i64 x.f1.f5, .int .i64 x.f1.f6, .string x.f1.f7, .string x.f1.f8, v10, v11] := ⟨[.int .i64 x.f0], [.int .i64 x.f1.f0, .int .i64 x.f1.f1, .int .i64 x.f1.f2, .int .i64 x.f1.f3, .int .i64 x.f1.f4, .int .i64 x.f1.f5, .int .i64 x.f1.f6, .string x.f1.f7, .string x.f1.f8, v10, v11], rfl, rfl, (k25_mkM w base ok x.f1 g10 g11)⟩
def rd_T49 (xs : List S49) (i : Int) : S49 := xs.getD i.toNat z49
theorem at_T49 {w : World} {A : Option Addr} {n : Nat} {xs : List S49} (h : Kd.C k49 w A n xs) (i : Int) (h0 : 0 ≤ i) (h1 : i < n) : ∃ ad A10 c10 A11 c11, A = some ad ∧ w.cell? (ad.add (i.toNat * 12)) = some (.int .i64 (rd_T49 xs i).f0) ∧ w.cell? ⟨(ad.add (i.toNat * 12)).block, (ad.add (i.toNat * 12)).off + 1, none⟩ = some (.int .i64 (rd_T49 xs i).f1.f0) ∧ w.cell? ⟨(ad.add (i.toNat * 12)).block, (ad.add (i.toNat * 12)).off + 2, none⟩ = some (.int .i64 (rd_T49 xs i).f1.f1) ∧ w.cell? ⟨(ad.add (i.toNat * 12)).block, (ad.add (i.toNat * 12)).off + 3, none⟩ = some (.int .i64 (rd_T49 xs i).f1.f2) ∧ w.cell? ⟨(ad.add (i.toNat * 12)).block, (ad.add (i.toNat * 12)).off + 4, none⟩ = some (.int .i64 (rd_T49 xs i).f1.f3) ∧ w.cell? ⟨(ad.add (i.toNat * 12)).block, (ad.add (i.toNat * 12)).off + 5, none⟩ = some (.int .i64 (rd_T49 xs i).f1.f4) ∧ w.cell? ⟨(ad.add (i.toNat * 12)).block, (ad.add (i.toNat * 12)).off + 6, none⟩ = some (.int .i64 (rd_T49 xs i).f1.f5) ∧ w.cell? ⟨(ad.add (i.toNat * 12)).block, (ad.add (i.toNat * 12)).off + 7, none⟩ = some (.int .i64 (rd_T49 xs i).f1.f6) ∧ w.cell? ⟨(ad.add (i.toNat * 12)).block, (ad.add (i.toNat * 12)).off + 8, none⟩ = some (.string (rd_T49 xs i).f1.f7) ∧ w.cell? ⟨(ad.add (i.toNat * 12)).block, (ad.add (i.toNat * 12)).off + 9, none⟩ = some (.string (rd_T49 xs i).f1.f8) ∧ w.cell? ⟨(ad.add (i.toNat * 12)).block, (ad.add (i.toNat * 12)).off + 10, none⟩ = some (.slice A10 (rd_T49 xs i).f1.f9.length c10) ∧ w.cell? ⟨(ad.add (i.toNat * 12)).block, (ad.add (i.toNat * 12)).off + 11, none⟩ = some (.slice A11 (rd_T49 xs i).f1.f10.length c11) ∧ (rd_T49 xs i).f1.f9.length ≤ c10 ∧ k66.C w A10 (rd_T49 xs i).f1.f9.length (rd_T49 xs i).f1.f9 ∧ (rd_T49 xs i).f1.f10.length ≤ c11 ∧ k68.C w A11 (rd_T49 xs i).f1.f10.length (rd_T49 xs i).f1.f10 := by
  obtain ⟨ad, c, e, _, hK, hc0⟩ := Kd.C_get h z49 i h0 h1
  have hc : ∀ j u, c[j]? = some u → w.cell? (ad.add (i.toNat * 12 + j)) = some u := hc0
  obtain ⟨A10, c10, A11, c11, rfl, l10, g10, l11, g11⟩ := k49_open hK
  exact ⟨ad, A10, c10, A11, c11, e, hc 0 _ rfl, by rw [← add_field _ _ 1 (by omega)]; exact hc 1 _ rfl, by rw [← add_field _ _ 2 (by omega)]; exact hc 2 _ rfl, by rw [← add_field _ _ 3 (by omega)]; exact hc 3 _ rfl, by rw [← add_field _ _ 4 (by omega)]; exact hc 4 _ rfl, by rw [← add_field _ _ 5 (by omega)]; exact hc 5 _ rfl, by rw [← add_field _ _ 6 (by omega)]; exact hc 6 _ rfl, by rw [← add_field _ _ 7 (by omega)]; exact hc 7 _ rfl, by rw [← add_field _ _ 8 (by omega)]; exact hc 8 _ rfl, by rw [← add_field _ _ 9 (by omega)]; exact hc 9 _ rfl, by rw [← add_field _ _ 10 (by omega)]; exact hc 10 _ rfl, by rw [← add_field _ _ 11 (by omega)]; exact hc 11 _ rfl, l10, g10, l11, g11⟩
end Go.Proofs.Ytcfknakmamcinaa.X4
namespace Go.Proofs.Ytcfknakmamcinaa.Rp
open Go Go.Proofs.Ytcfknakmamcinaa.X4
def b8 (n : Int) : UInt8 := UInt8.ofNat (n % 256).toNat
theorem b8_nat (n : Int) : ((b8 n).toNat : Int) = n % 256 := by
  unfold b8
  rw [UInt8.toNat_ofNat']
  omega
def four (n : Int) : List UInt8 := [b8 (n / 16777216), b8 (n / 65536), b8 (n / 256), b8 n]
def isNum (n : Int) : Bool := decide (0 ≤ n) && decide (n ≤ 2147483647)
theorem isNum_iff (n : Int) : isNum n = true ↔ 0 ≤ n ∧ n ≤ 2147483647 := by simp [isNum]
def numP (l : List Int) : Option (List UInt8) := if l.all isNum then some (l.flatMap four) else none
def smallP (n m : Int) : Option (List UInt8) := if 0 ≤ n ∧ n ≤ m then some [b8 n] else none
def txnP (n : Int) : Option (List UInt8) := if 1 ≤ n then numP [n] else none
def cat (a b : Option (List UInt8)) : Option (List UInt8) := a.bind fun x => b.map (x ++ ·)
theorem cat_none (a : Option (List UInt8)) : cat a none = none := by cases a <;> rfl
def placeP (p o n : Int) : Option (List UInt8) := if 1 ≤ n then cat (smallP p 7) (cat (smallP o (220 - min n 220)) (smallP n 16)) else none
theorem small_len {n m : Int} {bs : List UInt8} (h : smallP n m = some bs) : bs.length = 1 := by
  unfold smallP at h
  split at h
  · cases h; rfl
  · cases h
end Go.Proofs.Ytcfknakmamcinaa.Rp
namespace Go.Proofs.Ytcfknakmamcinaa.Rp
open Go Go.Proofs.Ytcfknakmamcinaa.X4
def joinP : List (Option (List UInt8)) → Option (List UInt8)
  | [] => some []
  | a :: t => cat a (joinP t)
theorem join_append (a b : List (Option (List UInt8))) : joinP (a ++ b) = cat (joinP a) (joinP b) := by
  induction a with
  | nil => cases h : joinP b <;> simp [joinP, cat, h]
  | cons x t ih =>
    simp only [List.cons_append, joinP, ih]
    cases x <;> cases joinP t <;> cases joinP b <;> simp [cat]
theorem join_none {α : Type} {f : α → Option (List UInt8)} {xs : List α} {k : Nat} {x : α} (h : xs[k]? = some x) (hn : f x = none) : joinP (xs.map f) = none := by
  induction xs generalizing k with
  | nil => simp at h
  | cons y t ih =>
    cases k with
    | zero =>
      simp at h
      subst h
      simp only [List.map_cons, joinP, hn]
      rfl
    | succ k =>
      simp at h
      simp only [List.map_cons, joinP, ih h]
      exact cat_none _
theorem join_succ {α : Type} {f : α → Option (List UInt8)} {xs : List α} {k : Nat} {x : α} {bs b : List UInt8} (h : xs[k]? = some x) (h1 : joinP ((xs.take k).map f) = some bs) (h2 : f x = some b) : joinP ((xs.take (k + 1)).map f) = some (bs ++ b) := by
  rw [List.take_add_one, h, List.map_append, join_append, h1]
  simp [joinP, h2, cat]
def rowT (x : S66) : Option (List UInt8) := cat (txnP x.f0) (numP [x.f1, x.f2])
def rowQ (x : S68) : Option (List UInt8) := cat (smallP x.f0 7) (numP [x.f1])
def tablesP (r : S25) : Option (List UInt8) := cat (numP [r.f6]) (cat (smallP r.f9.length 4) (cat (joinP (r.f9.map rowT)) (cat (smallP r.f10.length 8) (joinP (r.f10.map rowQ)))))
theorem num_len {xs : List Int} {bs : List UInt8} (h : numP xs = some bs) : bs.length = 4 * xs.length := by
  unfold numP at h
  split at h
  · cases h
    have key : ∀ ys : List Int, (ys.flatMap four).length = 4 * ys.length := fun ys => by
      induction ys with
      | nil => rfl
      | cons x t ih => rw [List.flatMap_cons, List.length_append, ih]; simp [four]; omega
    exact key xs
  · cases h
theorem txn_len {n : Int} {bs : List UInt8} (h : txnP n = some bs) : bs.length = 4 := by
  unfold txnP at h
  split at h
  · exact num_len h
  · cases h
theorem small_le {n m : Int} {bs : List UInt8} (h : smallP n m = some bs) : 0 ≤ n ∧ n ≤ m := by
  unfold smallP at h
  split at h
  · assumption
  · cases h
end Go.Proofs.Ytcfknakmamcinaa.Rp
namespace Go.Proofs.Ytcfknakmamcinaa.Rp
open Go Go.Proofs.Ytcfknakmamcinaa.X4
def bodyP (r : S25) : Option (List UInt8) :=
  if r.f0 = 1 then cat (txnP r.f1) (cat (numP [r.f4]) (cat (placeP r.f2 r.f3 r.f8.size) (if r.f7.size = r.f8.size then some (r.f7.data.toList ++ r.f8.data.toList) else none)))
  else if r.f0 = 2 then cat (txnP r.f1) (cat (numP [r.f4, r.f5]) (cat (placeP r.f2 r.f3 r.f8.size) (some r.f8.data.toList)))
  else if r.f0 = 3 ∨ r.f0 = 4 then cat (txnP r.f1) (numP [r.f4])
  else if r.f0 = 5 then some []
  else if r.f0 = 6 then tablesP r
  else none
def recP (r : S25) : Option (List UInt8) := cat (smallP r.f0 6) (bodyP r)
def ownR (r : S25) : S25 :=
  if r.f0 = 1 then ⟨1, r.f1, r.f2, r.f3, r.f4, 0, 0, r.f7, r.f8, [], []⟩
  else if r.f0 = 2 then ⟨2, r.f1, r.f2, r.f3, r.f4, r.f5, 0, ⟨#[]⟩, r.f8, [], []⟩
  else if r.f0 = 3 ∨ r.f0 = 4 then ⟨r.f0, r.f1, 0, 0, r.f4, 0, 0, ⟨#[]⟩, ⟨#[]⟩, [], []⟩
  else if r.f0 = 6 then ⟨6, 0, 0, 0, 0, 0, r.f6, ⟨#[]⟩, ⟨#[]⟩, r.f9, r.f10⟩
  else ⟨r.f0, 0, 0, 0, 0, 0, 0, ⟨#[]⟩, ⟨#[]⟩, [], []⟩
theorem place_len {p o n : Int} {bs : List UInt8} (h : placeP p o n = some bs) : bs.length = 3 ∧ 1 ≤ n ∧ n ≤ 16 := by
  unfold placeP at h
  split at h
  · cases h1 : smallP p 7 with
    | none => rw [h1] at h; cases h
    | some a =>
      cases h2 : smallP o (220 - min n 220) with
      | none => rw [h1, h2] at h; cases h
      | some b =>
        cases h3 : smallP n 16 with
        | none => rw [h1, h2, h3] at h; cases h
        | some c =>
          rw [h1, h2, h3] at h
          cases h
          refine ⟨?_, by assumption, (small_le h3).2⟩
          rw [List.length_append, List.length_append, small_len h1, small_len h2, small_len h3]
  · cases h
end Go.Proofs.Ytcfknakmamcinaa.Rp
namespace Go.Proofs.Ytcfknakmamcinaa.Rp
open Go Go.RowKit Go.Proofs.Ytcfknakmamcinaa.X4
set_option linter.unusedSimpArgs false
instance dec66 : DecidableEq S66 := fun a b => if h : a.f0 = b.f0 ∧ a.f1 = b.f1 ∧ a.f2 = b.f2 then isTrue (by cases a; cases b; simp_all) else isFalse (fun e => h (by subst e; simp))
instance dec68 : DecidableEq S68 := fun a b => if h : a.f0 = b.f0 ∧ a.f1 = b.f1 then isTrue (by cases a; cases b; simp_all) else isFalse (fun e => h (by subst e; simp))
instance dec25 : DecidableEq S25 := fun a b => if h : (a.f0 = b.f0 ∧ a.f1 = b.f1 ∧ a.f2 = b.f2 ∧ a.f3 = b.f3) ∧ (a.f4 = b.f4 ∧ a.f5 = b.f5 ∧ a.f6 = b.f6) ∧ (a.f7 = b.f7 ∧ a.f8 = b.f8) ∧ a.f9 = b.f9 ∧ a.f10 = b.f10 then isTrue (by cases a; cases b; simp_all) else isFalse (fun e => h (by subst e; simp))
theorem loop_bl (s : ByteArray) : ∀ (d i : Nat) (r : List UInt8), i + d = s.size → ByteArray.toList.loop s i r = r.reverse ++ (s.data.toList).drop i := by
  intro d
  induction d with
  | zero =>
    intro i r h
    rw [ByteArray.toList.loop, if_neg (by omega), List.drop_of_length_le (by rw [Array.length_toList]; exact Nat.le_of_eq (by show s.size = i; omega)), List.append_nil]
  | succ d ih =>
    intro i r h
    have hi : i < s.size := by omega
    have hl : i < (s.data.toList).length := by rw [Array.length_toList]; exact hi
    rw [ByteArray.toList.loop, if_pos hi, ih (i + 1) _ (by omega), List.drop_eq_getElem_cons hl, List.reverse_cons, List.append_assoc]
    have e : s.get! i = (s.data.toList)[i] := by
      show s.data[i]! = s.data.toList[i]
      have hd : i < s.data.size := hi
      rw [getElem!_pos s.data i hd]
      exact (Array.getElem_toList hd).symm
    rw [e]
    rfl
theorem toList_bl (s : ByteArray) : s.toList = s.data.toList := by
  show ByteArray.toList.loop s 0 [] = _
  rw [loop_bl s s.size 0 [] (by omega)]
  rfl
theorem toList_eq (a b : ByteArray) : a.toList = b.toList ↔ a = b := by
  constructor
  · intro h
    rw [toList_bl, toList_bl] at h
    cases a; cases b
    simp at h
    rw [h]
  · rintro rfl; rfl
/-- What Print says. -/
def printF (r : S25) : ByteArray × Int := match recP r with
  | none => (⟨#[]⟩, 1)
  | some bs => if ownR r = r then (⟨bs.toArray⟩, 0) else (⟨#[]⟩, 1)
theorem rec_ne {r : S25} {bs : List UInt8} (h : recP r = some bs) : bs ≠ [] := by
  unfold recP at h
  intro e
  subst e
  cases h1 : smallP r.f0 6 with
  | none => rw [h1] at h; cases h
  | some a =>
    have := small_len h1
    cases h2 : bodyP r with
    | none => rw [h1, h2] at h; cases h
    | some c =>
      rw [h1, h2] at h
      injection h with h
      have := congrArg List.length h
      simp at this
      simp [this.1] at *
theorem own_small {r : S25} {bs : List UInt8} (h : recP r = some bs) : (ownR r).f9.length ≤ 4 ∧ (ownR r).f10.length ≤ 8 := by
  by_cases h6 : r.f0 = 6
  · have e : recP r = cat (some [b8 r.f0]) (tablesP r) := by
      unfold recP bodyP
      rw [show smallP r.f0 6 = some [b8 r.f0] by unfold smallP; rw [if_pos (by omega)], if_neg (by omega), if_neg (by omega), if_neg (by omega), if_neg (by omega), if_pos h6]
    rw [e] at h
    have o : ownR r = ⟨6, 0, 0, 0, 0, 0, r.f6, ⟨#[]⟩, ⟨#[]⟩, r.f9, r.f10⟩ := by unfold ownR; rw [if_neg (by omega), if_neg (by omega), if_neg (by omega), if_pos h6]
    rw [o]
    unfold tablesP at h
    cases h1 : numP [r.f6] with
    | none => rw [h1] at h; cases h
    | some a =>
    cases h2 : smallP r.f9.length 4 with
    | none => rw [h1, h2] at h; cases h
    | some b =>
    cases h3 : joinP (r.f9.map rowT) with
    | none => rw [h1, h2, h3] at h; cases h
    | some c =>
    cases h4 : smallP r.f10.length 8 with
    | none => rw [h1, h2, h3, h4] at h; cases h
    | some d =>
      have := small_le h2
      have := small_le h4
      exact ⟨by simp only; omega, by simp only; omega⟩
  · have o : (ownR r).f9 = [] ∧ (ownR r).f10 = [] := by
      unfold ownR
      split
      · exact ⟨rfl, rfl⟩
      · split
        · exact ⟨rfl, rfl⟩
        · split
          · exact ⟨rfl, rfl⟩
          · exact ⟨rfl, rfl⟩
    rw [o.1, o.2]
    simp
end Go.Proofs.Ytcfknakmamcinaa.Rp
namespace Go.Proofs.Ytcfknakmamcinaa.Rgn
open Go Go.RowKit Go.Proofs.YtcfknakmamcinaaW.PrintWords Go.Proofs.YtcfknakmamcinaaW.PrintLast
set_option linter.unusedVariables false
section
variable {P : Program} {md : Region.Mode} {ops : Array Oper} {Q : Exit → Act → World → Prop} {S : World → Prop} {ds : List Nat}
variable {oi : Oper} {fuel : Nat} {l l' : Array Bool} {a a' : Act} {w : World} {v : Value} {T : Bool × List (List Nat × List Nat)} {B : List Nat}
/-- A pure step. -/
theorem rgp (i N : Nat) (h : wpAnyLast P md ops Q S ds fuel l' a' w) (hi : ops[i]? = some oi := by rfl) (hN : oi.dst = some N := by rfl) (hl : l.setIfInBounds i true = l' := by simp only [List.setIfInBounds_toArray, List.set_cons_zero, List.set_cons_succ]; rfl)
    (hc : anyB md ops l l' i = true := by kernel_rfl) (hQ : ∀ c a w, Q (.panic c) (a.put oi.dst v) w → Q (.panic c) a w := by exact fun _ _ _ h => h) (hw : Region.wanted oi (yielded ops a.tmps) = true := by kernel_rfl)
    (hy : ∀ w', (execOp a.eval oi).run P w' = .ok (.value v) w' := by intro w'; go_simp; with_reducible rfl) (ha : a.put (some N) v = a' := by simp only [Act.put, List.setIfInBounds_toArray, List.set_cons_zero, List.set_cons_succ, i64_w, i32_w]; rfl) :
    wpAnyLast P md ops Q S ds (fuel + 1) l a w := pure_ l' hi hN hc hQ (Or.inl ⟨hw, hy⟩) ha h
/-- A load, out of what is held. -/
theorem rgt (i N : Nat) (hS : S w) (h : wpAnyLast P md ops Q S ds fuel l' a' w) (hi : ops[i]? = some oi := by rfl) (hN : oi.dst = some N := by rfl) (hl : l.setIfInBounds i true = l' := by simp only [List.setIfInBounds_toArray, List.set_cons_zero, List.set_cons_succ]; rfl)
    (hc : takeB md ops ds l l' i = true := by kernel_rfl) (hQ : ∀ c a w, Q (.panic c) (a.put oi.dst v) w → Q (.panic c) a w := by exact fun _ _ _ h => h) (hw : Region.wanted oi (yielded ops a.tmps) = true := by kernel_rfl)
    (hy : ∀ w', S w' → (execOp a.eval oi).run P w' = .ok (.value v) w' := by intro w' hs; (repeat (obtain ⟨s_, hs⟩ := hs)); go_simp; with_reducible rfl) (ha : a.put (some N) v = a' := by simp only [Act.put, List.setIfInBounds_toArray, List.set_cons_zero, List.set_cons_succ, i64_w, i32_w]; rfl) :
    wpAnyLast P md ops Q S ds (fuel + 1) l a w := take_ l' hi hN hc hQ (Or.inl ⟨hw, hy⟩) hS ha h
/-- A pure step, by the table. -/
theorem rgpt (i N : Nat) (h : wpAnyLast P md ops Q S ds fuel l' a' w) (hT : Aside0 (rtab md ops = T) := by assumption) (hi : ops[i]? = some oi := by rfl) (hN : oi.dst = some N := by rfl) (hl : l.setIfInBounds i true = l' := by simp only [List.setIfInBounds_toArray, List.set_cons_zero, List.set_cons_succ]; rfl)
    (hc : anyT T l.toList l'.toList i = true := by kernel_rfl) (hQ : ∀ c a w, Q (.panic c) (a.put oi.dst v) w → Q (.panic c) a w := by exact fun _ _ _ h => h) (hw : Region.wanted oi (yielded ops a.tmps) = true := by kernel_rfl)
    (hy : ∀ w', (execOp a.eval oi).run P w' = .ok (.value v) w' := by intro w'; go_simp; with_reducible rfl) (ha : a.put (some N) v = a' := by simp only [Act.put, List.setIfInBounds_toArray, List.set_cons_zero, List.set_cons_succ, i64_w, i32_w]; rfl) :
    wpAnyLast P md ops Q S ds (fuel + 1) l a w := pure_ l' hi hN (any_of hT.out hc) hQ (Or.inl ⟨hw, hy⟩) ha h
/-- A load, by the table. -/
theorem rgtt (i N : Nat) (hS : S w) (h : wpAnyLast P md ops Q S ds fuel l' a' w) (hT : Aside0 (rtab md ops = T) := by assumption) (hB : Aside0 (waitsOk T.2 B = true) := by assumption) (hi : ops[i]? = some oi := by rfl) (hN : oi.dst = some N := by rfl) (hl : l.setIfInBounds i true = l' := by simp only [List.setIfInBounds_toArray, List.set_cons_zero, List.set_cons_succ]; rfl)
    (hc : takeW T B ds l.toList l'.toList i = true := by kernel_rfl) (hQ : ∀ c a w, Q (.panic c) (a.put oi.dst v) w → Q (.panic c) a w := by exact fun _ _ _ h => h) (hw : Region.wanted oi (yielded ops a.tmps) = true := by kernel_rfl)
    (hy : ∀ w', S w' → (execOp a.eval oi).run P w' = .ok (.value v) w' := by intro w' hs; (repeat (obtain ⟨s_, hs⟩ := hs)); go_simp; with_reducible rfl) (ha : a.put (some N) v = a' := by simp only [Act.put, List.setIfInBounds_toArray, List.set_cons_zero, List.set_cons_succ, i64_w, i32_w]; rfl) :
    wpAnyLast P md ops Q S ds (fuel + 1) l a w := take_ l' hi hN (take_ofW hT.out hB.out hc) hQ (Or.inl ⟨hw, hy⟩) hS ha h
end
theorem cells11 (w : World) (g : Nat) {a0 a1 a2 a3 a4 a5 a6 a7 a8 a9 a10 : Value} {r : List Value} {T : TypeId} (h : w.heap[g]? = some (.cells (a0 :: a1 :: a2 :: a3 :: a4 :: a5 :: a6 :: a7 :: a8 :: a9 :: a10 :: r).toArray T (0, 0))) : w.cell? ⟨g, 0, none⟩ = some a0 ∧ w.cell? ⟨g, 1, none⟩ = some a1 ∧ w.cell? ⟨g, 2, none⟩ = some a2 ∧ w.cell? ⟨g, 3, none⟩ = some a3 ∧ w.cell? ⟨g, 4, none⟩ = some a4 ∧ w.cell? ⟨g, 5, none⟩ = some a5 ∧ w.cell? ⟨g, 6, none⟩ = some a6 ∧ w.cell? ⟨g, 7, none⟩ = some a7 ∧ w.cell? ⟨g, 8, none⟩ = some a8 ∧ w.cell? ⟨g, 9, none⟩ = some a9 ∧ w.cell? ⟨g, 10, none⟩ = some a10 := ⟨blk_cell h 0, blk_cell h 1, blk_cell h 2, blk_cell h 3, blk_cell h 4, blk_cell h 5, blk_cell h 6, blk_cell h 7, blk_cell h 8, blk_cell h 9, blk_cell h 10⟩
theorem cellsF11 (w : World) (g : Nat) {a0 a1 a2 a3 a4 a5 a6 a7 a8 a9 a10 : Value} {r : List Value} {T : TypeId} (h : w.heap[g]? = some (.cells (a0 :: a1 :: a2 :: a3 :: a4 :: a5 :: a6 :: a7 :: a8 :: a9 :: a10 :: r).toArray T (0, 0))) : w.cell? ⟨g, 0, none⟩ = some a0 ∧ w.frozen? ⟨g, 0, none⟩ = false ∧ w.cell? ⟨g, 1, none⟩ = some a1 ∧ w.frozen? ⟨g, 1, none⟩ = false ∧ w.cell? ⟨g, 2, none⟩ = some a2 ∧ w.frozen? ⟨g, 2, none⟩ = false ∧ w.cell? ⟨g, 3, none⟩ = some a3 ∧ w.frozen? ⟨g, 3, none⟩ = false ∧ w.cell? ⟨g, 4, none⟩ = some a4 ∧ w.frozen? ⟨g, 4, none⟩ = false ∧ w.cell? ⟨g, 5, none⟩ = some a5 ∧ w.frozen? ⟨g, 5, none⟩ = false ∧ w.cell? ⟨g, 6, none⟩ = some a6 ∧ w.frozen? ⟨g, 6, none⟩ = false ∧ w.cell? ⟨g, 7, none⟩ = some a7 ∧ w.frozen? ⟨g, 7, none⟩ = false ∧ w.cell? ⟨g, 8, none⟩ = some a8 ∧ w.frozen? ⟨g, 8, none⟩ = false ∧ w.cell? ⟨g, 9, none⟩ = some a9 ∧ w.frozen? ⟨g, 9, none⟩ = false ∧ w.cell? ⟨g, 10, none⟩ = some a10 ∧ w.frozen? ⟨g, 10, none⟩ = false := ⟨blk_cell h 0, blk_frozen h 0, blk_cell h 1, blk_frozen h 1, blk_cell h 2, blk_frozen h 2, blk_cell h 3, blk_frozen h 3, blk_cell h 4, blk_frozen h 4, blk_cell h 5, blk_frozen h 5, blk_cell h 6, blk_frozen h 6, blk_cell h 7, blk_frozen h 7, blk_cell h 8, blk_frozen h 8, blk_cell h 9, blk_frozen h 9, blk_cell h 10, blk_frozen h 10⟩
end Go.Proofs.Ytcfknakmamcinaa.Rgn
namespace Go.Proofs.Ytcfknakmamcinaa.Arr
open Go Go.RowKit Go.Proofs.YtcfknakmamcinaaW.PrintWords
/-- The cells of a string's bytes. -/
def row (s : ByteArray) : Array Value := (Lib.byteCells s.data.toList).toArray
end Go.Proofs.Ytcfknakmamcinaa.Arr
namespace Go.Proofs.Ytcfknakmamcinaa.Mp
open Go Go.RowKit Go.MapKept Go.ChangeMaps Go.Proofs.Ytcfknakmamcinaa.Arr
set_option linter.unusedVariables false
set_option linter.unusedSimpArgs false
abbrev En := Int × ByteArray × Nat
def ent (p : En) : MapEntry := ⟨.int .i64 p.1, .string p.2.1, p.2.2⟩
def ents (L : List En) : Array MapEntry := (L.map ent).toArray
def getM : List En → Int → Option ByteArray
  | [], _ => none
  | p :: r, k => if k = p.1 then some p.2.1 else getM r k
/-- What a map's list is to be: no key twice, no stamp twice, all stamps below the clock. -/
structure MI (L : List En) (c : Nat) : Prop where
  keys : (L.map (·.1)).Nodup
  borns : (L.map (·.2.2)).Nodup
  below : ∀ p ∈ L, p.2.2 < c
theorem MI.nil (c : Nat) : MI [] c := ⟨List.nodup_nil, List.nodup_nil, fun _ h => by cases h⟩
theorem MI.push {L : List En} {c : Nat} (h : MI L c) {k : Int} (hk : ∀ p ∈ L, p.1 ≠ k) (v : ByteArray) : MI (L ++ [(k, v, c)]) (c + 1) := by
  refine ⟨?_, ?_, fun p hp => ?_⟩
  · rw [List.map_append]
    refine List.nodup_append.2 ⟨h.keys, by simp, ?_⟩
    intro a ha b hb
    obtain ⟨p, hp, rfl⟩ := List.mem_map.1 ha
    simp at hb
    subst hb
    exact hk p hp
  · rw [List.map_append]
    refine List.nodup_append.2 ⟨h.borns, by simp, ?_⟩
    intro a ha b hb
    obtain ⟨p, hp, rfl⟩ := List.mem_map.1 ha
    simp at hb
    subst hb
    have := h.below p hp
    omega
  · rcases List.mem_append.1 hp with hp | hp
    · have := h.below p hp; omega
    · simp at hp; subst hp; simp
theorem map_modify_same {α β : Type} (f : α → β) (g : α → α) : ∀ (l : List α) (i : Nat) (x : α), l[i]? = some x → f (g x) = f x → (l.modify i g).map f = l.map f
  | [], i, x, h, _ => by simp at h
  | y :: r, 0, x, h, e => by simp at h; subst h; simp [e]
  | y :: r, i + 1, x, h, e => by simp at h; simp [map_modify_same f g r i x h e]
theorem MI.set {L : List En} {c : Nat} (h : MI L c) {i : Nat} {k : Int} {v0 : ByteArray} {b : Nat} (hi : L[i]? = some (k, v0, b)) (v : ByteArray) : MI (L.modify i fun p => (k, v, p.2.2)) c := by
  have h1 := map_modify_same (fun p : En => p.1) (fun p => (k, v, p.2.2)) L i _ hi rfl
  have h2 := map_modify_same (fun p : En => p.2.2) (fun p => (k, v, p.2.2)) L i _ hi rfl
  refine ⟨by rw [h1]; exact h.keys, by rw [h2]; exact h.borns, fun p hp => ?_⟩
  have : p.2.2 ∈ (L.modify i fun p => (k, v, p.2.2)).map (·.2.2) := List.mem_map.2 ⟨p, hp, rfl⟩
  rw [h2] at this
  obtain ⟨q, hq, e⟩ := List.mem_map.1 this
  rw [← e]
  exact h.below q hq
/-- Block m is a map in which k has f k. -/
def MP (w : World) (m : Nat) (f : Int → Option ByteArray) : Prop := ∃ L c, w.heap[m]? = some (.map (ents L) c) ∧ MI L c ∧ ∀ k, getM L k = f k
theorem MP.lt {w : World} {m : Nat} {f : Int → Option ByteArray} (h : MP w m f) : m < w.heap.size := by
  obtain ⟨L, c, h, _⟩ := h
  rcases Nat.lt_or_ge m w.heap.size with h1 | h1
  · exact h1
  · simp [Array.getElem?_eq_none h1] at h
theorem MP.same {w w' : World} {m : Nat} {f : Int → Option ByteArray} (h : MP w m f) (e : w'.heap[m]? = w.heap[m]?) : MP w' m f := by
  obtain ⟨L, c, h1, h2, h3⟩ := h
  exact ⟨L, c, e.trans h1, h2, h3⟩
theorem MP.made (w : World) : MP (w.alloc (.map #[] 0)) w.heap.size (fun _ => none) := ⟨[], 0, heap_alloc_new w _, MI.nil 0, fun _ => rfl⟩
section
variable {P : Program} {w : World} {t k e : TypeId} {m : Nat} {f : Int → Option ByteArray}
end
end Go.Proofs.Ytcfknakmamcinaa.Mp
namespace Go.Proofs.Ytcfknakmamcinaa.Ow
open Go Go.RowKit Go.ChangeMaps Go.Proofs.Ytcfknakmamcinaa.Arr Go.Proofs.Ytcfknakmamcinaa.Mp
set_option linter.unusedVariables false
set_option linter.unusedSimpArgs false
/-- Nothing but blocks in S is touched. -/
structure FS (S : Nat → Prop) (w w' : World) : Prop where
  os : w'.os = w.os
  tape : w'.tape = w.tape
  output : w'.output = w.output
  size : w.heap.size ≤ w'.heap.size
  block : ∀ k, k < w.heap.size → ¬ S k → w'.heap[k]? = w.heap[k]?
theorem FS.refl (S : Nat → Prop) (w : World) : FS S w w := ⟨rfl, rfl, rfl, Nat.le_refl _, fun _ _ _ => rfl⟩
theorem FS.trans {S : Nat → Prop} {a b c : World} (h : FS S a b) (k : FS S b c) : FS S a c :=
  ⟨k.os.trans h.os, k.tape.trans h.tape, k.output.trans h.output, Nat.le_trans h.size k.size, fun i hi hn => (k.block i (Nat.lt_of_lt_of_le hi h.size) hn).trans (h.block i hi hn)⟩
/-- .. the second step may touch what is new behind the first's beginning, too. -/
theorem FS.step {S S2 : Nat → Prop} {a b c : World} (h : FS S a b) (k : FS S2 b c) (hs : ∀ i, S2 i → S i ∨ a.heap.size ≤ i) : FS S a c :=
  ⟨k.os.trans h.os, k.tape.trans h.tape, k.output.trans h.output, Nat.le_trans h.size k.size, fun i hi hn => (k.block i (Nat.lt_of_lt_of_le hi h.size) (fun e => (hs i e).elim hn (fun e2 => by omega))).trans (h.block i hi hn)⟩
theorem FS.below {S : Nat → Prop} {a b c : World} (h : FS S a b) (k : Below b.heap.size b c) : FS S a c :=
  h.step (S2 := fun _ => False) ⟨k.os, k.tape, k.output, k.size, fun i hi _ => k.block i hi⟩ (fun _ e => e.elim)
theorem FS.drew {S : Nat → Prop} {a b : World} (h : FS S a b) : FS S a b.drew := ⟨h.os, h.tape, h.output, h.size, h.block⟩
theorem FS.alloc {S : Nat → Prop} {a b : World} (h : FS S a b) (o : Obj) : FS S a (b.alloc o) :=
  h.below ((Below.refl _ _).alloc (Nat.le_refl _) _)
theorem FS.setCell {S : Nat → Prop} {a b : World} (h : FS S a b) {p : Addr} (hp : S p.block ∨ a.heap.size ≤ p.block) (v : Value) : FS S a (b.setCell p v) :=
  h.step (S2 := fun k => k = p.block) ⟨rfl, rfl, rfl, by simp [World.setCell], fun i _ hn => Below.heap_setCell b p v i hn⟩ (fun i e => by subst e; exact hp)
theorem FS.grown {S : Nat → Prop} {a b c : World} {row : Option Nat} (h : FS S a b) (hg : b.grownBy c row) (hr : ∀ k, row = some k → S k ∨ a.heap.size ≤ k) : FS S a c :=
  h.step (S2 := fun k => row = some k) ⟨hg.os, hg.tape, hg.output, hg.size, fun i hi hn => hg.block i hi (fun e => hn e.symm)⟩ (fun i e => hr i e)
theorem FS.of_below {B : Nat} {w w' : World} (h : Below B w w') : FS (B ≤ ·) w w' := ⟨h.os, h.tape, h.output, h.size, fun k _ hn => h.block k (by omega)⟩
theorem FS.to_below {w0 w w' : World} {S : Nat → Prop} (h0 : Below w0.heap.size w0 w) (h : FS S w w') (hS : ∀ k, S k → w0.heap.size ≤ k) : Below w0.heap.size w0 w' :=
  h0.trans ⟨h.os, h.tape, h.output, h.size, fun k hk => h.block k (Nat.lt_of_lt_of_le hk h0.size) (fun e => by have := hS k e; omega)⟩
theorem FS.mono {S S2 : Nat → Prop} {w w' : World} (h : FS S w w') (hs : ∀ k, k < w.heap.size → S k → S2 k) : FS S2 w w' := ⟨h.os, h.tape, h.output, h.size, fun k hk hn => h.block k hk (fun e => hn (hs k hk e))⟩
theorem FS.old {S : Nat → Prop} {w w' : World} (h : FS S w w') {k : Nat} {o : Obj} (hk : w.heap[k]? = some o) (hn : ¬ S k) : w'.heap[k]? = some o := by
  have hl : k < w.heap.size := by
    rcases Nat.lt_or_ge k w.heap.size with h1 | h1
    · exact h1
    · simp [Array.getElem?_eq_none h1] at hk
  exact (h.block k hl hn).trans hk
/-- A row of cells in a block of its own, that lies in S. -/
structure Ow (w : World) (S : Nat → Prop) (e : TypeId) (sz : Nat) (v : Value) (n : Nat) (xs : List Value) : Prop where
  own : w.ownsRow 0 e sz v n xs
  mem : ∀ k, v.ownBlock = some k → S k
theorem Ow.nil (w : World) (S : Nat → Prop) (e : TypeId) (sz : Nat) : Ow w S e sz (.slice none 0 0) 0 [] := ⟨World.ownsRow_nil w 0 e sz, fun _ h => by cases h⟩
theorem Ow.mono {w : World} {S S2 : Nat → Prop} {e : TypeId} {sz : Nat} {v : Value} {n : Nat} {xs : List Value} (h : Ow w S e sz v n xs) (hs : ∀ k, k < w.heap.size → S k → S2 k) : Ow w S2 e sz v n xs :=
  ⟨h.own, fun k hk => hs k (h.own.lt k hk).2 (h.mem k hk)⟩
theorem Ow.kept {w w' : World} {S S2 : Nat → Prop} {e : TypeId} {sz : Nat} {v : Value} {n : Nat} {xs : List Value} (h : Ow w S e sz v n xs) (hf : FS S2 w w') (hd : ∀ k, S k → ¬ S2 k) : Ow w' S e sz v n xs := by
  refine ⟨?_, h.mem⟩
  obtain ⟨hl, h1⟩ := h.own
  refine ⟨hl, ?_⟩
  rcases h1 with h1 | ⟨g, cap, cur, hv, hb, hg, r⟩
  · exact .inl h1
  · exact .inr ⟨g, cap, cur, hv, hb, hf.old hg (hd g (h.mem g (by rw [hv]; rfl))), r⟩
/-- .. if its own block is as it was. -/
theorem Ow.same {w w' : World} {S : Nat → Prop} {e : TypeId} {sz : Nat} {v : Value} {n : Nat} {xs : List Value} (h : Ow w S e sz v n xs) (hf : ∀ k, v.ownBlock = some k → w'.heap[k]? = w.heap[k]?) : Ow w' S e sz v n xs := by
  refine ⟨?_, h.mem⟩
  obtain ⟨hl, h1⟩ := h.own
  refine ⟨hl, ?_⟩
  rcases h1 with h1 | ⟨g, cap, cur, hv, hb, hg, r⟩
  · exact .inl h1
  · exact .inr ⟨g, cap, cur, hv, hb, (hf g (by rw [hv]; rfl)).trans hg, r⟩
/-- What a row is, opened. -/
theorem Ow.shape {w : World} {S : Nat → Prop} {e : TypeId} {sz : Nat} {v : Value} {n : Nat} {xs : List Value} (h : Ow w S e sz v n xs) : ∃ A c, v = .slice A n c ∧ n ≤ c ∧ c ≤ maxLen ∧ xs.length = n * sz := by
  obtain ⟨hl, h1⟩ := h.own
  rcases h1 with ⟨rfl, rfl⟩ | ⟨g, cap, cur, hv, hb, hg, h2, h3, h4, h5⟩
  · exact ⟨none, 0, rfl, Nat.le_refl _, by decide, hl⟩
  · exact ⟨some ⟨g, 0, none⟩, cap, hv, h2, h3, hl⟩
theorem Ow.open {w : World} {S : Nat → Prop} {e : TypeId} {sz : Nat} {v : Value} {n : Nat} {xs : List Value} (h : Ow w S e sz v n xs) (hn : 0 < n) : ∃ g c cur, v = .slice (some ⟨g, 0, none⟩) n c ∧ S g ∧ w.heap[g]? = some (.cells cur e (0, 0)) ∧ n ≤ c ∧ c ≤ maxLen ∧ cur.size = c * sz ∧ cur.toList.take (n * sz) = xs := by
  obtain ⟨hl, h1⟩ := h.own
  rcases h1 with ⟨rfl, rfl⟩ | ⟨g, cap, cur, hv, hb, hg, r⟩
  · omega
  · exact ⟨g, cap, cur, hv, h.mem g (by rw [hv]; rfl), hg, r⟩
/-- A cell of it is written. -/
theorem Ow.put {w : World} {S : Nat → Prop} {e : TypeId} {sz n c g : Nat} {xs : List Value} (h : Ow w S e sz (.slice (some ⟨g, 0, none⟩) n c) n xs) (j : Nat) (hj : j < n * sz) (u : Value) : Ow (w.setCell ⟨g, j, none⟩ u) S e sz (.slice (some ⟨g, 0, none⟩) n c) n (xs.set j u) := by
  refine ⟨?_, h.mem⟩
  obtain ⟨hl, h1⟩ := h.own
  refine ⟨by rw [List.length_set]; exact hl, ?_⟩
  rcases h1 with ⟨h1, _⟩ | ⟨g', cap, cur, hv, hb, hg, h2, h3, h4, h5⟩
  · cases h1
  · cases hv
    refine .inr ⟨g, c, cur.setIfInBounds j u, rfl, hb, ?_, h2, h3, by simpa using h4, ?_⟩
    · have hl2 : g < w.heap.size := by
        rcases Nat.lt_or_ge g w.heap.size with h1 | h1
        · exact h1
        · simp [Array.getElem?_eq_none h1] at hg
      simp only [World.setCell]
      rw [Array.getElem?_modify, if_pos rfl, hg]
      rfl
    · rw [Array.toList_setIfInBounds, List.take_set, h5]
/-- 'append(v, x...)': in the block that there is, or in a new one. -/
theorem run_append_ow {P : Program} {w : World} {S : Nat → Prop} (t ty e : TypeId) (i : TypeInfo) (z : Value) (size bytes : Nat) (ht : P.underlying t = some (.slice e)) (hi : P.info? e = some i) (hz : i.zero = some z)
    (hsize : i.size = size) (hby : i.bytes = bytes) (hzs : z.cells.size = size) (hsz : 0 < size)
    (v : Value) (n : Nat) (xs : List Value) (h : Ow w S e size v n xs)
    (a : Addr) (m c : Nat) (news : List Value) (hl : news.length = m * size) (hnews : ∀ j u, news[j]? = some u → w.cell? (a.add j) = some u) (h1 : ∀ u ∈ news, u.oneCell' = true)
    (h63 : n + m ≤ maxLen) (hbytes : (n + m) * bytes ≤ 140737488355328) (hm : 0 < m) :
    ∃ v' w', (Builtin.append_ #[t, t] ty #[v, .slice (some a) m c]).run P w = .ok v' w' ∧ Ow w' (fun k => S k ∨ k = w.heap.size) e size v' (n + m) (xs ++ news) ∧ w.grownBy w' v.ownBlock ∧ (v'.ownBlock = v.ownBlock ∨ v'.ownBlock = some w.heap.size) ∧ ∃ g' c', v' = .slice (some ⟨g', 0, none⟩) (n + m) c' := by
  obtain ⟨v', w', hr, ho, hg, _⟩ := run_append_own w 0 t ty e i z size bytes ht hi hz hsize hby hzs hsz v n xs h.own a m c news hl hnews h1 h63 hbytes (Nat.zero_le _)
  have key : (v'.ownBlock = v.ownBlock ∨ v'.ownBlock = some w.heap.size) ∧ ∃ g' c', v' = .slice (some ⟨g', 0, none⟩) (n + m) c' := by
    subst hsize
    subst hby
    have hsmall : n + m ≤ 9223372036854775807 := by simp only [maxLen] at h63; omega
    rcases h.own.2 with ⟨rfl, rfl⟩ | ⟨g, cap, cur, rfl, hbg, hgc, hnc, hcm, hcs, htake⟩
    · have hr2 := run_append_nil (P := P) w t ty e i z ht hi hz a m c news hl hnews (by omega) (by omega) (by have hb := hbytes; simp only [Nat.zero_add] at hb; omega)
      rw [hr] at hr2
      injection hr2 with e1 e2
      rw [e1, Nat.zero_add]
      exact ⟨.inr rfl, _, _, rfl⟩
    · by_cases hroom : n + m ≤ cap
      · have hfit : n * i.size + news.length ≤ cur.size := by rw [hl, hcs, ← Nat.add_mul]; exact Nat.mul_le_mul_right _ hroom
        have hr2 := run_append_room (P := P) w t ty e i ht hi g n cap cur hgc a m c news hl hnews h1 hroom hfit
        rw [hr] at hr2
        injection hr2 with e1 e2
        rw [e1]
        exact ⟨.inl rfl, _, _, rfl⟩
      · have holds : ∀ j u, xs[j]? = some u → w.cell? ((⟨g, 0, none⟩ : Addr).add j) = some u := h.own.cells (g := g) rfl
        have hr2 := run_append_grow (P := P) w t ty e i z ht hi hz ⟨g, 0, none⟩ n cap xs h.own.1 holds a m c news hl hnews (by omega) (by omega) (growslice_fits (by omega) hbytes)
        rw [hr] at hr2
        injection hr2 with e1 e2
        rw [e1]
        exact ⟨.inr rfl, _, _, rfl⟩
  refine ⟨v', w', hr, ⟨ho, fun k hk => ?_⟩, hg, key⟩
  rcases key.1 with e1 | e1
  · exact .inl (h.mem k (e1 ▸ hk))
  · rw [e1] at hk
    exact .inr (by injection hk with hk; exact hk.symm)
/-- 'append' at the operation, its run known. -/
theorem ev_append {P : Program} {ops : Array Oper} {rest : List Oper} {o : Oper} {a : Act} {Q : Exit → Act → World → Prop} {W w1 : World} {v : Value} (s x : Operand) (t : TypeId) (hgd : o.guard = none)
    (ho : o.op = .call { callee := .builtin .append, args := #[s, x], argTypes := #[t, t] }) (v1 v2 : Value) (hs : a.eval s = v1) (hx : a.eval x = v2) (hr : (Builtin.append_ #[t, t] o.type #[v1, v2]).run P W = .ok v w1) (h : wpList P ops Q rest (a.put o.dst v) w1) : wpList P ops Q (o :: rest) a W := by
  refine wpList_plain hgd fun _ hK => ?_
  unfold Oper.wp execOp
  simp only [ho, resolve, invoke, builtin, Sem.run_bind, Sem.run_pure, Result.andThen_ok, List.map_toArray, List.map_cons, List.map_nil, hs, hx, hr]
  exact hK _ _ h
end Go.Proofs.Ytcfknakmamcinaa.Ow
namespace Go.Proofs.Ytcfknakmamcinaa.Wr
open Go Go.RowKit Go.ChangeMaps Go.Proofs.Ytcfknakmamcinaa.Arr Go.Proofs.Ytcfknakmamcinaa.Ow Go.Proofs.YtcfknakmamcinaaW.PrintWords Go.Proofs.YtcfknakmamcinaaW.PrintLast Go.Proofs.YtcfknakmamcinaaW.PrintMore
set_option linter.unusedVariables false
set_option linter.unusedSimpArgs false
abbrev TW : TypeId := 59
abbrev TB : TypeId := 5
abbrev TE : TypeId := 28
/-- What 'must' gives up with. -/
abbrev gaveUp (e : Int) : Ending := .panicked [{ v := .iface TE (.int .i64 e), recovered := false }]
theorem must_yes (e : Int) (w : World) : Calls Try.prog 24 #[.bool true, .int .i64 e] w fun x w' => x = .returned (.tuple #[]) ∧ w' = w := by
  go_enter Try.func24, Try.ntmps24
  go_wp2
  go_end0
  exact ⟨rfl, rfl⟩
theorem must_no (e : Int) (w : World) : Calls Try.prog 24 #[.bool false, .int .i64 e] w fun x w' => x = gaveUp e ∧ w' = w := by
  go_enter Try.func24, Try.ntmps24
  go_wp2
  exact ⟨rfl, rfl, rfl⟩
theorem blk_lt {w : World} {b : Nat} {o : Obj} (h : w.heap[b]? = some o) : b < w.heap.size := by
  rcases Nat.lt_or_ge b w.heap.size with h1 | h1
  · exact h1
  · simp [Array.getElem?_eq_none h1] at h
theorem blk_cell {w : World} {b : Nat} {cs : Array Value} {T : TypeId} {fr : Nat × Nat} (h : w.heap[b]? = some (.cells cs T fr)) (j : Nat) : w.cell? ⟨b, j, none⟩ = cs[j]? := Lib.cell_of_heap h j
theorem blk_frozen {w : World} {b : Nat} {cs : Array Value} {T : TypeId} (h : w.heap[b]? = some (.cells cs T (0, 0))) (j : Nat) : w.frozen? ⟨b, j, none⟩ = false := Lib.frozen_of_heap h j
theorem set_blk {w : World} {b : Nat} {cs : Array Value} {T : TypeId} {fr : Nat × Nat} (h : w.heap[b]? = some (.cells cs T fr)) (i : Nat) (u : Value) : (w.setCell ⟨b, i, none⟩ u).heap[b]? = some (.cells (cs.setIfInBounds i u) T fr) := by
  simp only [World.setCell]
  rw [Array.getElem?_modify, if_pos rfl, h]
  rfl
theorem infoBd : (Try.prog.info? 57).map (·.size) = some 2 := by kernel_rfl
theorem copyCheck_calls (g : Nat) (p bv : Value) (w : World) (h : w.heap[g]? = some (.cells #[p, bv] TW (0, 0))) (hp : p = .pointer none ∨ p = .pointer (some ⟨g, 0, none⟩)) : Calls Try.prog 49 #[.pointer (some ⟨g, 0, none⟩)] w fun x w' => x = .returned (.tuple #[]) ∧ w'.heap[g]? = some (.cells #[.pointer (some ⟨g, 0, none⟩), bv] TW (0, 0)) ∧ FS (fun k => k = g) w w' := by
  obtain ⟨j, hj, hjs⟩ := Option.map_eq_some_iff.1 infoBd
  rcases hp with rfl | rfl
  · have h0 : w.cell? ⟨g, 0, none⟩ = some (.pointer none) := blk_cell h 0
    have hfz : w.frozen? ⟨g, 0, none⟩ = false := blk_frozen h 0
    have hsh : w.shape? g = some (TW, 2) := by simp [World.shape?, h]
    have HB := Aside0.mk h
    clear h
    go_enter Try.func49, Try.ntmps49
    go_wp2
    rw [Lib.run_to_unsafe w ⟨g, 0, none⟩ (by kernel_rfl) (by kernel_rfl) hj (by rw [hjs]; decide) hsh (Nat.zero_lt_succ 1)]
    simp only [Result.andThen]
    rw [Oper.upon_value]
    go_wp2
    rw [run_callFunc_extern Try.func50 (by kernel_rfl) (by kernel_rfl) (by kernel_rfl) (e := Extern.AbiNoEscape.same) (by kernel_rfl)]
    rw [Lib.run_noEscape]
    simp only [Result.andThen]
    rw [Oper.upon_value]
    go_wp2
    rw [Lib.run_from_unsafe w ⟨g, 0, none⟩ (by kernel_rfl) (by kernel_rfl) hj hsh (by kernel_rfl)]
    simp only [Result.andThen]
    rw [Oper.upon_value]
    go_wp2
    go_end0
    exact ⟨rfl, set_blk HB.out 0 _, (FS.refl (fun k => k = g) w).setCell (p := ⟨g, 0, none⟩) (.inl (show g = g from rfl)) _⟩
  · have h0 : w.cell? ⟨g, 0, none⟩ = some (.pointer (some ⟨g, 0, none⟩)) := blk_cell h 0
    have HB := Aside0.mk h
    clear h
    go_enter Try.func49, Try.ntmps49
    go_wp2
    rw [Lib.run_neq_ptr_same w _ (by kernel_rfl) hj]
    go_wp2
    go_end0
    exact ⟨rfl, HB.out, FS.refl _ _⟩
structure WW (w : World) (S : Nat → Prop) (g : Nat) (l : List UInt8) (p bv : Value) : Prop where
  blk : w.heap[g]? = some (.cells #[p, bv] TW (0, 0))
  own : p = .pointer none ∨ p = .pointer (some ⟨g, 0, none⟩)
  buf : Ow w S TB 1 bv l.length (Lib.byteCells l)
  sg : S g
/-- Pointer g's writer has written l. -/
def WK (w : World) (S : Nat → Prop) (g : Nat) (l : List UInt8) : Prop := ∃ p bv, WW w S g l p bv
theorem ow_ne {w : World} {S : Nat → Prop} {e T : TypeId} {sz : Nat} {v : Value} {n : Nat} {xs : List Value} (h : Ow w S e sz v n xs) {b : Nat} {cs : Array Value} {fr : Nat × Nat} (hb : w.heap[b]? = some (.cells cs T fr)) (hT : T ≠ e) : ∀ k, v.ownBlock = some k → k ≠ b := fun k hk e1 => by
  subst e1
  rcases h.own.2 with ⟨rfl, _⟩ | ⟨g', cap, cur, rfl, _, hg, _⟩
  · cases hk
  · injection hk with hk
    subst hk
    rw [hb] at hg
    injection hg with hg
    injection hg with _ h2 _
    exact hT h2
theorem WW.lt {w : World} {S : Nat → Prop} {g : Nat} {l : List UInt8} {p bv : Value} (h : WW w S g l p bv) : g < w.heap.size := blk_lt h.blk
theorem blk_below {w w' : World} {b : Nat} {o : Obj} (h : w.heap[b]? = some o) (hb : Below w.heap.size w w') : w'.heap[b]? = some o := (hb.block b (blk_lt h)).trans h
theorem WK.below {w w' : World} {S : Nat → Prop} {g : Nat} {l : List UInt8} (h : WK w S g l) (hb : Below w.heap.size w w') : WK w' S g l := by
  obtain ⟨p, bv, h⟩ := h
  exact ⟨p, bv, blk_below h.blk hb, h.own, h.buf.same fun k hk => hb.block k (h.buf.own.lt k hk).2, h.sg⟩
theorem WK.kept {w w' : World} {S S2 : Nat → Prop} {g : Nat} {l : List UInt8} (h : WK w S g l) (hf : FS S2 w w') (hd : ∀ k, S k → ¬ S2 k) : WK w' S g l := by
  obtain ⟨p, bv, h⟩ := h
  exact ⟨p, bv, hf.old h.blk (hd g h.sg), h.own, h.buf.kept hf hd, h.sg⟩
theorem WK.mono {w : World} {S S2 : Nat → Prop} {g : Nat} {l : List UInt8} (h : WK w S g l) (hs : ∀ k, k < w.heap.size → S k → S2 k) : WK w S2 g l := by
  obtain ⟨p, bv, h⟩ := h
  exact ⟨p, bv, h.blk, h.own, h.buf.mono hs, hs g h.lt h.sg⟩
theorem WK.drew {w : World} {S : Nat → Prop} {g : Nat} {l : List UInt8} (h : WK w S g l) : WK w.drew S g l := h.below ((Below.refl _ _).drew)
/-- Behind copyCheck. -/
theorem WW.checked {w w' : World} {S : Nat → Prop} {g : Nat} {l : List UInt8} {p bv : Value} (h : WW w S g l p bv) (hb : w'.heap[g]? = some (.cells #[.pointer (some ⟨g, 0, none⟩), bv] TW (0, 0))) (hf : FS (fun k => k = g) w w') : WW w' S g l (.pointer (some ⟨g, 0, none⟩)) bv :=
  ⟨hb, .inr rfl, h.buf.same fun k hk => hf.block k (h.buf.own.lt k hk).2 (ow_ne h.buf h.blk (by decide) k hk), h.sg⟩
theorem grown_blk {w w' : World} {row : Option Nat} {b : Nat} {o : Obj} (hg : w.grownBy w' row) (h : w.heap[b]? = some o) (hn : some b ≠ row) : w'.heap[b]? = some o := (hg.block b (blk_lt h) hn).trans h
theorem WW.grown {w w' : World} {S : Nat → Prop} {g : Nat} {l l' : List UInt8} {p bv bv' : Value} (h : WW w S g l p bv) (hg : w.grownBy w' bv.ownBlock) (ho : Ow w' S TB 1 bv' l'.length (Lib.byteCells l')) :
    w'.heap[g]? = some (.cells #[p, bv] TW (0, 0)) ∧ WW (w'.setCell ⟨g, 1, none⟩ bv') S g l' p bv' := by
  have hb := grown_blk hg h.blk (fun e => ow_ne h.buf h.blk (by decide) g e.symm rfl)
  exact ⟨hb, set_blk hb 1 bv', h.own, ho.same fun k hk => Below.heap_setCell w' ⟨g, 1, none⟩ bv' k (ow_ne ho hb (by decide) k hk), h.sg⟩
theorem infoB : (Try.prog.info? TB).map (fun i => (i.zero, i.size, i.bytes)) = some (some (.int .u8 0), 1, 1) := by kernel_rfl
theorem push_byte {w : World} {S : Nat → Prop} {v : Value} (l : List UInt8) (b : UInt8) (h : Ow w S TB 1 v l.length (Lib.byteCells l)) (hl : l.length ≤ 1000000) {nb : Nat} (hnb : w.heap[nb]? = some (.cells #[.int .u8 b.toNat] TB (0, 0))) (ty : TypeId) :
    ∃ v' w', (Builtin.append_ #[55, 55] ty #[v, .slice (some ⟨nb, 0, none⟩) 1 1]).run Try.prog w = .ok v' w' ∧ Ow w' (fun k => S k ∨ k = w.heap.size) TB 1 v' (l ++ [b]).length (Lib.byteCells (l ++ [b])) ∧ w.grownBy w' v.ownBlock ∧ ∃ g' c', v' = .slice (some ⟨g', 0, none⟩) (l.length + 1) c' := by
  obtain ⟨i0, hi0, h2⟩ := Option.map_eq_some_iff.1 infoB
  have hz : i0.zero = some (.int .u8 0) := congrArg Prod.fst h2
  have hs : i0.size = 1 := congrArg (fun p => p.2.1) h2
  have hb : i0.bytes = 1 := congrArg (fun p => p.2.2) h2
  obtain ⟨v', w', r1, r2, r3, _, r5⟩ := run_append_ow (P := Try.prog) (ty := ty) 55 TB i0 _ 1 1 (by kernel_rfl) hi0 hz hs hb rfl (by decide) v l.length _ h ⟨nb, 0, none⟩ 1 1 [.int .u8 b.toNat] rfl (fun j u hj => by
    match j with
    | 0 => exact (blk_cell hnb 0).trans (by simpa using hj)
    | j + 1 => simp at hj) (fun u hu => by
    rcases List.mem_cons.1 hu with rfl | hu
    · rfl
    · cases hu) (by simp only [maxLen]; omega) (by omega) (by decide)
  refine ⟨v', w', r1, ?_, r3, r5⟩
  rw [List.length_append, Lib.byteCells_append]
  exact r2
theorem push_str {w : World} {S : Nat → Prop} {v : Value} (l : List UInt8) (s : ByteArray) (h : Ow w S TB 1 v l.length (Lib.byteCells l)) (hl : l.length + s.size ≤ 1000000) (hS : ∀ k, w.heap.size ≤ k → S k) (ty : TypeId) :
    ∃ v' w', (Builtin.append_ #[55, 9] ty #[v, .string s]).run Try.prog w = .ok v' w' ∧ Ow w' S TB 1 v' (l ++ s.data.toList).length (Lib.byteCells (l ++ s.data.toList)) ∧ w.grownBy w' v.ownBlock ∧ ∃ A' n' c', v' = .slice A' n' c' := by
  obtain ⟨i0, hi0, h2⟩ := Option.map_eq_some_iff.1 infoB
  have hz : i0.zero = some (.int .u8 0) := congrArg Prod.fst h2
  have hs : i0.size = 1 := congrArg (fun p => p.2.1) h2
  have hb : i0.bytes = 1 := congrArg (fun p => p.2.2) h2
  obtain ⟨v', w', r1, r2, r3, r4⟩ := Lib.run_append_own_string (P := Try.prog) w 0 55 9 ty TB i0 (by kernel_rfl) (by kernel_rfl) hi0 hz hs hb v l.length _ h.own s (by simp only [maxLen]; omega) (by omega) (Nat.zero_le _)
  have hsz : s.size = s.data.toList.length := by rw [Array.length_toList]; rfl
  refine ⟨v', w', r1, ⟨?_, ?_⟩, r3, ?_⟩
  · rw [List.length_append, Lib.byteCells_append, ← Lib.strCells_eq, ← hsz]
    exact r2
  · intro k hk
    have ht : Try.prog.underlying 55 = some (.slice TB) := by kernel_rfl
    have hu : Try.prog.underlying 9 = some .string := by kernel_rfl
    rcases h.own.2 with ⟨hv0, hn0⟩ | ⟨g, cap, cur, hv0, hbg, hg, hnc, hcm, hcs, htk⟩
    · subst hv0
      have hnil : Lib.byteCells l = [] := by rw [List.eq_nil_of_length_eq_zero hn0]; rfl
      obtain ⟨v2, w2, q1, q2, _, _⟩ := Lib.run_append_own_string (P := Try.prog) w w.heap.size 55 9 ty TB i0 ht hu hi0 hz hs hb _ 0 [] (World.ownsRow_nil w w.heap.size TB 1) s (by simp only [maxLen]; omega) (by omega) (Nat.le_refl _)
      have e := r1.symm.trans q1
      injection e with e1 e2
      subst e1
      exact hS k (q2.lt k hk).1
    · subst hv0
      by_cases hroom : l.length + s.size ≤ cap
      · have q1 := Lib.run_append_room_string (P := Try.prog) w 55 9 ty TB i0 ht hu hi0 hs g l.length cap cur hg s hroom (by omega)
        have e := r1.symm.trans q1
        injection e with e1 e2
        subst e1
        injection hk with hk
        subst hk
        exact h.mem g rfl
      · have q1 := Lib.run_append_grow_string (P := Try.prog) w 55 9 ty TB i0 _ ht hu hi0 hz ⟨g, 0, none⟩ l.length cap (Lib.byteCells l) (by rw [hs, Nat.mul_one]; exact Lib.byteCells_length l) (h.own.cells (g := g) rfl) s (by omega) (by omega) (by rw [hb]; exact growslice_fits (by omega) (by omega))
        have e := r1.symm.trans q1
        injection e with e1 e2
        subst e1
        injection hk with hk
        subst hk
        exact hS _ (Nat.le_refl _)
  · rcases r2.2 with ⟨hv, _⟩ | ⟨g, cap, cur, hv, _⟩
    · exact ⟨_, _, _, hv⟩
    · exact ⟨_, _, _, hv⟩
end Go.Proofs.Ytcfknakmamcinaa.Wr
namespace Go.Proofs.Ytcfknakmamcinaa.Wr
open Go Go.RowKit Go.ChangeMaps Go.Proofs.Ytcfknakmamcinaa.Arr Go.Proofs.Ytcfknakmamcinaa.Ow Go.Proofs.YtcfknakmamcinaaW.PrintWords Go.Proofs.YtcfknakmamcinaaW.PrintLast Go.Proofs.YtcfknakmamcinaaW.PrintMore
set_option linter.unusedVariables false
set_option linter.unusedSimpArgs false
def Top (S : Nat → Prop) (w : World) : Prop := ∀ k, w.heap.size ≤ k → S k
theorem Top.next {S : Nat → Prop} {w w' : World} (h : Top S w) (hl : w.heap.size ≤ w'.heap.size) : Top S w' := fun k hk => h k (Nat.le_trans hl hk)
theorem ev_append2 {P : Program} {ops : Array Oper} {rest : List Oper} {o : Oper} {a : Act} {Q : Exit → Act → World → Prop} {W w1 : World} {v : Value} (s x : Operand) (t t2 : TypeId) (hgd : o.guard = none)
    (ho : o.op = .call { callee := .builtin .append, args := #[s, x], argTypes := #[t, t2] }) (v1 v2 : Value) (hs : a.eval s = v1) (hx : a.eval x = v2) (hr : (Builtin.append_ #[t, t2] o.type #[v1, v2]).run P W = .ok v w1)
    (h : wpList P ops Q rest (a.put o.dst v) w1) : wpList P ops Q (o :: rest) a W := by
  refine wpList_plain hgd fun _ hK => ?_
  unfold Oper.wp execOp
  simp only [ho, resolve, invoke, builtin, Sem.run_bind, Sem.run_pure, Result.andThen_ok, List.map_toArray, List.map_cons, List.map_nil, hs, hx, hr]
  exact hK _ _ h
theorem fs_freeze {S : Nat → Prop} {q : Nat} (h : S q) (w : World) (n : Nat) : FS S w (w.drew.freeze ⟨q, 0, none⟩ n) := by
  unfold World.freeze
  split
  · exact (FS.refl S w).drew
  · exact ⟨rfl, rfl, rfl, by simp, fun k hk hn => by
      simp only [Array.getElem?_modify]
      rw [if_neg (show ¬ q = k from fun e => hn (by rw [← e]; exact h))]
      rfl⟩
set_option maxHeartbeats 1000000 in
theorem writeByte_calls (g : Nat) (l : List UInt8) (b : UInt8) (S : Nat → Prop) (w : World) (hS : Top S w) (h : WK w S g l) (hl : l.length ≤ 1000000) : Calls Try.prog 48 #[.pointer (some ⟨g, 0, none⟩), .int .u8 (b.toNat : Int)] w fun x w' => x = .returned .nilIface ∧ WK w' S g (l ++ [b]) ∧ FS S w w' := by
  obtain ⟨p, bv, hv⟩ := h
  have HV := Aside0.mk hv; have HS := Aside0.mk hS; have HL := Aside0.mk hl; clear hv hS hl
  go_enter Try.func48, Try.ntmps48
  go_upto_region 2 with (go_at_call 49; (with_reducible refine (copyCheck_calls g p bv _ HV.out.blk HV.out.own).mono ?_); rintro e w1 ⟨rfl, hb, hf⟩; have HW := Aside0.mk (HV.out.checked hb hf); have F := Aside0.mk (hf.mono (S2 := S) fun k _ e => by rw [e]; exact HV.out.sg); clear hb hf)
  clear HV
  obtain ⟨A, c, rfl, -⟩ := HW.out.buf.shape
  have c1 : w1.cell? ⟨g, 1, none⟩ = some (.slice A l.length c) := blk_cell HW.out.blk 1
  have hbb := (Below.refl w1.heap.size w1).alloc (Nat.le_refl _) (.cells #[.int .u8 (b.toNat : Int)] TB)
  have hw2 : WW (w1.alloc (.cells #[.int .u8 (b.toNat : Int)] TB)) S g l (.pointer (some ⟨g, 0, none⟩)) (.slice A l.length c) := ⟨blk_below HW.out.blk hbb, .inr rfl, HW.out.buf.same fun k hk => hbb.block k (HW.out.buf.own.lt k hk).2, HW.out.sg⟩
  obtain ⟨v', W4, hr, how, hgr, g', c', rfl⟩ := push_byte l b hw2.buf HL.out (heap_alloc_new w1 _) 55
  have how2 := how.mono (S2 := S) (fun k _ hk => hk.elim id (fun e => HS.out k (by rw [e]; have := F.out.size; simp; omega)))
  have hp := hw2.grown hgr how2
  have k1 : W4.cell? ⟨g, 1, none⟩ = some (.slice A l.length c) := blk_cell hp.1 1
  have k2 : W4.frozen? ⟨g, 1, none⟩ = false := blk_frozen hp.1 1
  have HP := Aside0.mk hp.2; have HR := Aside0.mk hr
  have F4 := Aside0.mk (((F.out.below hbb).grown hgr (fun k hk => .inl (hw2.buf.mem k hk))).setCell (p := ⟨g, 1, none⟩) (.inl HW.out.sg) (.slice (some ⟨g', 0, none⟩) (l.length + 1) c'))
  clear hbb hw2 how how2 hgr hp hr
  go_wp2_with ((with_reducible refine gate_builtin (b := .append) (xs := #[.tmp 11, .tmp 13]) rfl ?_); at_builtin; refine ev_append (.tmp 11) (.tmp 13) 55 rfl rfl _ _ rfl rfl HR.out ?_)
  go_ret
  exact ⟨rfl, ⟨_, _, HP.out⟩, F4.out⟩
set_option maxHeartbeats 1000000 in
theorem writeString_calls (g : Nat) (l : List UInt8) (s : ByteArray) (S : Nat → Prop) (w : World) (hS : Top S w) (h : WK w S g l) (hl : l.length + s.size ≤ 1000000) : Calls Try.prog 41 #[.pointer (some ⟨g, 0, none⟩), .string s] w fun x w' => x = .returned (.tuple #[.int .i64 s.size, .nilIface]) ∧ WK w' S g (l ++ s.data.toList) ∧ FS S w w' := by
  obtain ⟨p, bv, hv⟩ := h
  have HV := Aside0.mk hv; have HS := Aside0.mk hS; have HL := Aside0.mk hl; clear hv hS hl
  go_enter Try.func41, Try.ntmps41
  go_upto_region 2 with (go_at_call 49; (with_reducible refine (copyCheck_calls g p bv _ HV.out.blk HV.out.own).mono ?_); rintro e w1 ⟨rfl, hb, hf⟩; have HW := Aside0.mk (HV.out.checked hb hf); have F := Aside0.mk (hf.mono (S2 := S) fun k _ e => by rw [e]; exact HV.out.sg); clear hb hf)
  clear HV
  obtain ⟨A, c, rfl, -⟩ := HW.out.buf.shape
  have c1 : w1.cell? ⟨g, 1, none⟩ = some (.slice A l.length c) := blk_cell HW.out.blk 1
  obtain ⟨v', W4, hr, how, hgr, A', n', c', rfl⟩ := push_str l s HW.out.buf HL.out (fun k hk => HS.out k (Nat.le_trans F.out.size hk)) 55
  have hp := HW.out.grown hgr how
  have k1 : W4.cell? ⟨g, 1, none⟩ = some (.slice A l.length c) := blk_cell hp.1 1
  have k2 : W4.frozen? ⟨g, 1, none⟩ = false := blk_frozen hp.1 1
  have HP := Aside0.mk hp.2; have HR := Aside0.mk hr
  have F4 := Aside0.mk ((F.out.grown hgr (fun k hk => .inl (HW.out.buf.mem k hk))).setCell (p := ⟨g, 1, none⟩) (.inl HW.out.sg) (.slice A' n' c'))
  clear how hgr hp hr
  go_wp2_with ((with_reducible refine gate_builtin (b := .append) (xs := #[.tmp 12, .tmp 13]) rfl ?_); at_builtin; refine ev_append2 (.tmp 12) (.tmp 13) 55 9 rfl rfl _ _ rfl rfl HR.out ?_)
  go_ret2
  exact ⟨rfl, ⟨_, _, HP.out⟩, F4.out⟩
set_option maxHeartbeats 1000000 in
theorem string_calls (g : Nat) (l : List UInt8) (S : Nat → Prop) (w : World) (h : WK w S g l) (h0 : l ≠ []) : Calls Try.prog 26 #[.pointer (some ⟨g, 0, none⟩)] w fun x w' => x = .returned (.string ⟨l.toArray⟩) ∧ FS S w w' := by
  obtain ⟨p, bv, hv⟩ := h
  have hl0 : 0 < l.length := List.length_pos_iff.2 h0
  obtain ⟨q, cap, cur, rfl, hq, hg, hnc, hcm, hcs, htk⟩ := hv.buf.open hl0
  have c1 : w.drew.cell? ⟨g, 1, none⟩ = some (.slice (some ⟨q, 0, none⟩) l.length cap) := blk_cell (w := w.drew) hv.blk 1
  have hSD : (Builtin.unsafeSliceData_ #[55] 89 #[.slice (some ⟨q, 0, none⟩) l.length cap]).run Try.prog w.drew = .ok (.pointer (some ⟨q, 0, none⟩)) w.drew :=
    Lib.run_unsafeSliceData_row _ _ _ _ _ _ (by omega)
  have hUS : (Builtin.unsafeString_ #[89, 3] 9 #[.pointer (some ⟨q, 0, none⟩), .int .i64 l.length]).run Try.prog w.drew = .ok (.string ⟨l.toArray⟩) (w.drew.freeze ⟨q, 0, none⟩ l.length) := by
    refine Lib.run_unsafeString_row w.drew 89 3 9 TB (by kernel_rfl) (by kernel_rfl) q cur.size (by have hg' : w.drew.heap[q]? = some (.cells cur TB (0, 0)) := hg; simp [World.shape?, hg']) l h0 (by omega) (by unfold maxLen at hcm; omega) ?_
    intro j x hx
    have := hv.buf.own.cells (g := q) rfl j (.int .u8 x.toNat) (by simp [Lib.byteCells, hx])
    exact this
  have HQ := Aside0.mk hq
  clear hv hl0 hg hnc hcm hcs htk h0
  go_enter Try.func26, Try.ntmps26
  go_wp2
  go_region
  all_goals (go_wp2; go_ret; exact ⟨rfl, fs_freeze HQ.out w l.length⟩)
end Go.Proofs.Ytcfknakmamcinaa.Wr
namespace Go.Proofs.Ytcfknakmamcinaa.Wr
open Go Go.RowKit Go.ChangeMaps Go.Proofs.Ytcfknakmamcinaa.Arr Go.Proofs.Ytcfknakmamcinaa.Ow Go.Proofs.YtcfknakmamcinaaW.PrintWords Go.Proofs.YtcfknakmamcinaaW.PrintLast Go.Proofs.YtcfknakmamcinaaW.PrintMore
set_option linter.unusedVariables false
set_option linter.unusedSimpArgs false
theorem as_errno (v : Value) (w : World) : (Instr.typeAssert (.iface TE v) 20 TE true).run Try.prog w = .ok (.tuple #[v, .bool true]) w := by kernel_rfl
theorem as_none (w : World) : (Instr.typeAssert .nilIface 20 TE true).run Try.prog w = .ok (.tuple #[.int .i64 0, .bool false]) w := by kernel_rfl
theorem caught_up (p : Addr) (x c : Int) (older : List PanicEntry) (w : World) (hc : w.cell? p = some (.int .i64 x)) (hz : w.frozen? p = false) :
    CallsD Try.prog 23 #[.pointer (some p)] (.panicking ({ v := .iface TE (.int .i64 c), recovered := false } :: older)) w fun e u' w' =>
      e = .returned (.tuple #[]) ∧ u' = .panicking ({ v := .iface TE (.int .i64 c), recovered := true } :: older) ∧ w' = w.setCell p (.int .i64 c) := by
  refine callsD_of_wpS Try.func23 rfl fun c₀ cs hu => ?_
  apply wpS_seq
  apply wpS_region
  simp [wpOpsS, go_sem, as_errno, as_none, recoverD, hu, Try.ntmps23, Exit.thenS]
  apply wpS_seq
  apply wpS_region
  simp [wpOpsS, go_sem, Exit.thenS]
  refine wpS_cond (t := true) (by simp [Act.eval, Array.replicate]) ?_
  simp only [if_true]
  apply wpS_region
  simp [wpOpsS, go_sem, hc, hz, bodyPostS, results, Try.results23]
theorem caught_idle (p : Addr) (w : World) :
    CallsD Try.prog 23 #[.pointer (some p)] .returning w fun e u' w' => e = .returned (.tuple #[]) ∧ u' = .returning ∧ w' = w := by
  refine callsD_of_wpS Try.func23 rfl fun c₀ cs hu => ?_
  apply wpS_seq
  apply wpS_region
  simp [wpOpsS, go_sem, as_errno, as_none, recoverD, hu, Try.ntmps23, Exit.thenS]
  apply wpS_seq
  apply wpS_region
  simp [wpOpsS, go_sem, Exit.thenS]
  refine wpS_cond (t := false) (by simp [Act.eval, Array.replicate]) ?_
  simp only [Bool.false_eq_true, if_false]
  refine wpS_of_wp (wp_skip ?_)
  cases c₀
  simp_all [bodyPostS, results, Try.results23]
/-- What is read at the door hangs on the results' slots alone. -/
theorem leaves_tmps {P : Program} {f : Func} {R : Ending → World → Prop} {t t' : Array Value} (h : results f t = results f t') : ∀ (ds : List Deferred) (u : FrameMode) (w : World), Leaves P f t R ds u w → Leaves P f t' R ds u w := by
  intro ds
  induction ds with
  | nil =>
    intro u w hl
    cases u with
    | run => exact hl
    | returning => rw [Leaves] at hl ⊢; rw [← h]; exact hl
    | panicking c => rw [Leaves] at hl ⊢; exact hl
  | cons d ds ih =>
    intro u w hl
    rw [Leaves] at hl ⊢
    obtain ⟨h1, fv, cap, k, args, h2, h3, h4⟩ := hl
    refine ⟨h1, fv, cap, k, args, h2, h3, h4.mono ?_⟩
    intro e u' w' hx
    cases e with
    | returned v => exact ih _ _ hx
    | panicked c => exact ih _ _ hx
    | outgrown => exact hx
theorem put_get (a : Act) (n j : Nat) (v d : Value) (h : n ≠ j) : (a.put (some n) v).tmps.getD j d = a.tmps.getD j d := by
  unfold Act.put
  simp only [Array.getD_eq_getD_getElem?, Array.getElem?_setIfInBounds, if_neg h]
theorem bp_print {R : Ending → World → Prop} (n : Nat) (hn : n ≠ 2 ∧ n ≠ 3) (v : Value) (c : List PanicEntry) (a : Act) (w : World) (h : bodyPostD Try.prog Try.f13 R (.panic c) (a.put (some n) v) w) : bodyPostD Try.prog Try.f13 R (.panic c) a w := by
  have e : results Try.f13 (a.put (some n) v).tmps = results Try.f13 a.tmps := by
    have e2 := put_get a n 2 v undef hn.1
    have e3 := put_get a n 3 v undef hn.2
    unfold results
    rw [Try.results13]
    simp only [Array.mapM_eq_mapM_toList, List.mapM_cons, List.mapM_nil, e2, e3]
  exact leaves_tmps e _ _ _ h
end Go.Proofs.Ytcfknakmamcinaa.Wr
namespace Go.Proofs.Ytcfknakmamcinaa.Bof
open Go Go.RowKit Go.Proofs.Ytcfknakmamcinaa.Arr Go.Proofs.YtcfknakmamcinaaW.PrintWords Go.Proofs.Ytcfknakmamcinaa
set_option linter.unusedVariables false
/-- Block g bears s's bytes ahead; a mark behind them. -/
def Holds (w : World) (g : Nat) (T : TypeId) (s : ByteArray) : Prop := ∃ (C : Array Value) (a b : Nat), w.heap[g]? = some (.cells C T (a, b)) ∧ s.size ≤ a ∧ s.size ≤ C.size ∧ ∀ i (h : i < s.size), C[i]? = some (.int .u8 ((s[i]'h).toNat : Int))
theorem Holds.below {w w1 : World} {g : Nat} {T : TypeId} {s : ByteArray} (h : Holds w g T s) (hb : Below w.heap.size w w1) : Holds w1 g T s := by
  obtain ⟨C, a, b, h1, h2⟩ := h
  exact ⟨C, a, b, Wr.blk_below h1 hb, h2⟩
theorem Holds.cell {w : World} {g : Nat} {T : TypeId} {s : ByteArray} (h : Holds w g T s) (i : Nat) (hi : i < s.size) : w.cell? ⟨g, i, none⟩ = some (.int .u8 ((s[i]'hi).toNat : Int)) := by
  obtain ⟨C, a, b, h1, _, _, h3⟩ := h
  rw [cell_of_row w g i C T (a, b) h1]
  exact h3 i hi
/-- '[]byte(s)'. -/
theorem made {P : Program} (w : World) (src dst e : TypeId) (s : ByteArray) (hs : P.underlying src = some .string) (hd : P.underlying dst = some (.slice e)) (he : P.underlying e = some (.int .u8)) :
    ∃ (c : Nat) (w1 : World), (convert src dst (.string s)).run P w = .ok (.slice (some ⟨w.heap.size, 0, none⟩) s.size c) w1 ∧ s.size ≤ c ∧ Holds w1 w.heap.size e s ∧ Below w.heap.size w w1 := by
  have hge := grownCap_ge w s.size 0 e
  refine ⟨_, _, run_bytes_of_string w src dst e s hs hd he, hge, ⟨bytesRow s (grownCap w s.size 0 e), (bytesRow s (grownCap w s.size 0 e)).size, (bytesRow s (grownCap w s.size 0 e)).size + 1, ?_, ?_, ?_, ?_⟩, ?_⟩
  · show (w.heap.push _)[w.heap.size]? = _
    simp
  · simp [bytesRow]
  · simp [bytesRow]
  · intro i hi
    have h2 : i < s.data.size := hi
    unfold bytesRow
    rw [Array.getElem?_append_left (by simpa using hi), Array.getElem?_map, Array.getElem?_eq_getElem h2]
    rfl
  · exact (Below.refl w.heap.size w).drew.alloc (Nat.le_refl _) _
end Go.Proofs.Ytcfknakmamcinaa.Bof
namespace Go.Proofs.Ytcfknakmamcinaa.Wr
open Go.Proofs.Ytcfknakmamcinaa.Rgn
open Go.Proofs.Ytcfknakmamcinaa.Rp Go.Proofs.Ytcfknakmamcinaa.X4
open Go Go.RowKit Go.ChangeMaps Go.Proofs.Ytcfknakmamcinaa.Arr Go.Proofs.Ytcfknakmamcinaa.Ow Go.Proofs.YtcfknakmamcinaaW.PrintWords Go.Proofs.YtcfknakmamcinaaW.PrintLast Go.Proofs.YtcfknakmamcinaaW.PrintMore
set_option linter.unusedVariables false
set_option linter.unusedSimpArgs false
/-- A reader of s, at a place. -/
def RD (w : World) (g : Nat) (s : ByteArray) (p : Nat) : Prop := w.heap[g]? = some (.cells #[.string s, .int .i64 (p : Int)] 72 (0, 0))
abbrev One (g : Nat) : Nat → Prop := fun k => k = g
theorem RD.below {w w' : World} {g : Nat} {s : ByteArray} {p : Nat} (h : RD w g s p) (hb : Below w.heap.size w w') : RD w' g s p := blk_below h hb
def takeR (s : ByteArray) (p n : Nat) : Option (ByteArray × Nat) := if p + n ≤ s.size then some (s.extract p (p + n), p + n) else none
def AfterS (g : Nat) (w : World) (s : ByteArray) (o : Option (ByteArray × Nat)) (x : Ending) (w' : World) : Prop :=
  match o with
  | some q => x = .returned (.string q.1) ∧ RD w' g s q.2 ∧ FS (One g) w w'
  | none => x = gaveUp 3 ∧ FS (One g) w w'
def AfterI (g : Nat) (w : World) (s : ByteArray) (o : Option (Int × Nat)) (x : Ending) (w' : World) : Prop :=
  match o with
  | some q => x = .returned (.int .i64 q.1) ∧ RD w' g s q.2 ∧ FS (One g) w w'
  | none => x = gaveUp 3 ∧ FS (One g) w w'
/-- A call that may give up (see Wr6). -/
theorem goesQ_ {P : Program} {ops : Array Oper} {Q : Exit → Act → World → Prop} {oi : Oper} {N : Option Tmp} {a : Act} {w : World} {K : Act → World → Prop} {f : FuncId} {fn : Func} {os : Array Operand} {ts : Array TypeId} (hf : P.funcs[f]? = some fn) (hname : (fn.name == "runtime.NumGoroutine") = false) (hb : fn.body.isSome = true) (args : Array Value)
    (hw : Region.wanted oi (yielded ops a.tmps) = true) (hN : oi.dst = N) (hop : oi.op = .call { callee := .value (.func f), args := os, argTypes := ts }) (hargs : os.map a.eval = args)
    (h : Calls P f args w fun e w' => (∃ v, e = .returned v ∧ K (a.put N v) w') ∨ (∃ c, e = .panicked c ∧ Q (.panic c) a w')) : if Region.wanted oi (yielded ops a.tmps) = true then Oper.wp P oi a w K Q else K (a.put N undef) w := by
  have he := enters_ hf hname hb args w
  have hrun : (execOp a.eval oi).run P w = .ok (.enter f args) w := by
    unfold execOp
    simp [hop, resolve, Deferred.ofValue, invoke, Act.eval, hargs, he]
  rw [if_pos hw]
  subst hN
  unfold Oper.wp
  rw [hrun, Oper.upon_enter]
  refine h.mono fun e w'' hh => ?_
  rcases hh with ⟨v, rfl, hk⟩ | ⟨c, rfl, hq⟩
  · exact hk
  · exact hq
set_option maxHeartbeats 1000000 in
theorem take_calls (g : Nat) (s : ByteArray) (p n : Nat) (w : World) (h : RD w g s p) (hp : p ≤ s.size) (hs : s.size ≤ 1000000000000) (hn : n ≤ 1000000000000) : Calls Try.prog 46 #[.pointer (some ⟨g, 0, none⟩), .int .i64 n] w fun x w' => AfterS g w s (takeR s p n) x w' := by
  have H := Aside0.mk h; have HP := Aside0.mk hp; have HS := Aside0.mk hs; have HN := Aside0.mk hn
  have z0 : w.drew.cell? ⟨g, 0, none⟩ = some (.string s) := blk_cell (w := w.drew) h 0
  have z1 : w.drew.cell? ⟨g, 1, none⟩ = some (.int .i64 p) := blk_cell (w := w.drew) h 1
  have hw1 : wrap64 ((s.size : Int) - (p : Int)) = (s.size : Int) - (p : Int) := by unfold wrap64; omega
  have hw2 : IntKind.i64.wrap ((s.size : Int) - (p : Int)) = (s.size : Int) - (p : Int) := IntWalk.i64_in _ (by omega)
  clear h hp hs hn
  go_enter Try.func46, Try.ntmps46
  go_upto_region 1 with (fail)
  by_cases hk : p + n ≤ s.size
  rotate_left
  · have E := Aside0.mk (show takeR s p n = none by unfold takeR; rw [if_neg hk])
    have t1 : decide ((n : Int) ≤ (s.size : Int) - (p : Int)) = false := decide_eq_false (by have := HP.out; omega)
    clear hk
    refine start_ (n := 13) (S := fun w' => w'.cell? ⟨g, 0, none⟩ = some (.string s) ∧ w'.cell? ⟨g, 1, none⟩ = some (.int .i64 p)) (ds := []) #[false, false, false, false, false, false, false, false, false, false, false, false, false] (by kernel_rfl) rfl rfl ⟨z0, z1⟩ (fun hHeld => ?_)
    refine rgp 0 5 ?_
    refine rgp 1 6 ?_
    refine rgp 2 7 ?_
    refine rgp 3 8 ?_
    refine rgp 6 11 ?_
    refine rgp 7 12 ?_
    refine rgp 8 13 ?_
    refine rgt 4 9 hHeld ?_
    refine rgp 5 10 ?_
    refine rgt 9 14 hHeld ?_
    refine rgp 10 15 ?_
    refine rgp 11 16 ?_
    refine one_ (i := 12) (N := some 17) #[true, true, true, true, true, true, true, true, true, true, true, true, true] rfl rfl (by kernel_rfl) (by decide) (fun K hK => ?_)
    refine goesQ_ Try.func24 (by kernel_rfl) rfl #[.bool false, .int .i64 3] (by rfl) rfl rfl (by (try simp only [List.map_toArray, List.map_cons, List.map_nil]); first | done | rfl) ?_
    refine (must_no 3 _).mono ?_
    rintro e w9 ⟨rfl, hw⟩
    replace hw := hw.symm
    subst hw
    refine Or.inr ⟨_, rfl, rfl, ?_⟩
    show AfterS g w s (takeR s p n) (gaveUp 3) _
    rw [E.out]
    exact ⟨rfl, (FS.refl _ _).drew⟩
  have E := Aside0.mk (show takeR s p n = some (s.extract p (p + n), p + n) by unfold takeR; rw [if_pos hk])
  have t1 : decide ((n : Int) ≤ (s.size : Int) - (p : Int)) = true := decide_eq_true (by have := HP.out; omega)
  have HK := Aside0.mk hk
  clear hk
  refine start_ (n := 13) (S := fun w' => w'.cell? ⟨g, 0, none⟩ = some (.string s) ∧ w'.cell? ⟨g, 1, none⟩ = some (.int .i64 p)) (ds := []) #[false, false, false, false, false, false, false, false, false, false, false, false, false] (by kernel_rfl) rfl rfl ⟨z0, z1⟩ (fun hHeld => ?_)
  refine rgp 0 5 ?_
  refine rgp 1 6 ?_
  refine rgp 2 7 ?_
  refine rgp 3 8 ?_
  refine rgp 6 11 ?_
  refine rgp 7 12 ?_
  refine rgp 8 13 ?_
  refine rgt 4 9 hHeld ?_
  refine rgp 5 10 ?_
  refine rgt 9 14 hHeld ?_
  refine rgp 10 15 ?_
  refine rgp 11 16 ?_
  refine one_ (i := 12) (N := some 17) #[true, true, true, true, true, true, true, true, true, true, true, true, true] rfl rfl (by kernel_rfl) (by decide) (fun K hK => ?_)
  refine goes_ Try.func24 (by kernel_rfl) rfl #[.bool true, .int .i64 3] (by rfl) rfl rfl (by (try simp only [List.map_toArray, List.map_cons, List.map_nil]); first | done | rfl) ?_
  refine (must_yes 3 _).mono ?_
  rintro e w9 ⟨rfl, hw⟩
  replace hw := hw.symm
  subst hw
  refine ⟨_, rfl, ?_⟩
  refine hK _ _ ⟨z0, z1⟩ (fun hHeld => ?_)
  clear hK K
  refine norm_ (a' := ?_) ?_ ?_
  rotate_left
  · show Act.put _ (some 17) _ = _
    simp only [Act.put, List.setIfInBounds_toArray, List.set_cons_zero, List.set_cons_succ, i64_w, i32_w]
    rfl
  refine done_ (by kernel_rfl) ?_
  simp only [Exit.inBlock, Exit.then]
  have F := Aside0.mk ((FS.refl (One g) w).drew)
  have H1 := Aside0.mk (show RD w.drew g s p from H.out)
  clear hHeld z0 z1 t1
  generalize w.drew = w1 at *
  have z1 : w1.cell? ⟨g, 1, none⟩ = some (.int .i64 p) := blk_cell H1.out 1
  have f1 : w1.frozen? ⟨g, 1, none⟩ = false := blk_frozen H1.out 1
  have hw3 : wrap64 ((p : Int) + (n : Int)) = ((p + n : Nat) : Int) := by have := HK.out; have := HS.out; unfold wrap64; omega
  go_upto_region 3 with (fail)
  rw [show (p : Int) + (n : Int) = ((p + n : Nat) : Int) by omega]
  have H2 := Aside0.mk (show RD (w1.setCell ⟨g, 1, none⟩ (.int .i64 ((p + n : Nat) : Int))) g s (p + n) from set_blk H1.out 1 _)
  have F2 := Aside0.mk (F.out.setCell (p := ⟨g, 1, none⟩) (.inl rfl) (.int .i64 ((p + n : Nat) : Int)))
  generalize w1.setCell ⟨g, 1, none⟩ (.int .i64 ((p + n : Nat) : Int)) = w2 at *
  clear z1 f1 F H1
  have y0 : w2.cell? ⟨g, 0, none⟩ = some (.string s) := blk_cell H2.out 0
  have y1 : w2.cell? ⟨g, 1, none⟩ = some (.int .i64 ((p + n : Nat) : Int)) := blk_cell H2.out 1
  have hw4 : wrap64 (((p + n : Nat) : Int) - (n : Int)) = (p : Int) := by have := HK.out; have := HS.out; unfold wrap64; omega
  have hw5 : IntKind.i64.wrap (((p + n : Nat) : Int) - (n : Int)) = (p : Int) := by rw [show ((p + n : Nat) : Int) - (n : Int) = (p : Int) by omega]; exact IntWalk.i64_in _ (by have := HK.out; have := HS.out; omega)
  have hw6 : IntKind.i64.wrap (p : Int) = (p : Int) := IntWalk.i64_in _ (by have := HK.out; have := HS.out; omega)
  have b1 : (0 : Int) ≤ (p : Int) := by omega
  have b4 : (p : Int) + (n : Int) ≤ (s.size : Int) := by have := HK.out; omega
  have b5 : (p : Int) ≤ (p : Int) + (n : Int) := by omega
  have b6 : ((p : Int) + (n : Int)).toNat = p + n := by omega
  have b2 : ((p + n : Nat) : Int) ≤ (s.size : Int) := by have := HK.out; omega
  have b3 : (p : Int) ≤ ((p + n : Nat) : Int) := by omega
  clear hHeld hw1 hw2 hw3
  go_quiet (fail)
  go_wp2
  go_ret
  show AfterS g w s (takeR s p n) _ _
  rw [E.out]
  exact ⟨by rfl, H2.out.below (pw_below_drewN (Below.refl _ _) _), F2.out.below (pw_below_drewN (Below.refl _ _) _)⟩
theorem take_lit (g : Nat) (s : ByteArray) (p n : Nat) (i : Int) (hi : i = (n : Int)) (w : World) (h : RD w g s p) (hp : p ≤ s.size) (hs : s.size ≤ 1000000000000) (hn : n ≤ 1000000000000) : Calls Try.prog 46 #[.pointer (some ⟨g, 0, none⟩), .int .i64 i] w fun x w' => AfterS g w s (takeR s p n) x w' := by
  subst hi
  exact take_calls g s p n w h hp hs hn
def smallR (s : ByteArray) (p : Nat) : Option (Int × Nat) := (takeR s p 1).map fun q => (bt q.1 0, q.2)
def num4 (b : ByteArray) : Int := ((bt b 0 * 256 + bt b 1) * 256 + bt b 2) * 256 + bt b 3
def numR (s : ByteArray) (p : Nat) : Option (Int × Nat) := (takeR s p 4).map fun q => (num4 q.1, q.2)
theorem take_size {s : ByteArray} {p n : Nat} {b : ByteArray} {q : Nat} (h : takeR s p n = some (b, q)) : b.size = n ∧ q = p + n ∧ q ≤ s.size := by
  unfold takeR at h
  split at h
  · cases h
    refine ⟨?_, rfl, by assumption⟩
    rw [ByteArray.size_extract]
    omega
  · cases h
theorem small_some {s : ByteArray} {p : Nat} {v : Int} {q : Nat} (h : smallR s p = some (v, q)) : q = p + 1 ∧ q ≤ s.size ∧ 0 ≤ v ∧ v ≤ 255 := by
  unfold smallR at h
  cases h1 : takeR s p 1 with
  | none => rw [h1] at h; cases h
  | some b =>
    obtain ⟨b, q'⟩ := b
    rw [h1] at h
    simp only [Option.map_some, Option.some.injEq, Prod.mk.injEq] at h
    obtain ⟨rfl, rfl⟩ := h
    have := take_size h1
    have := bt_range b 0
    exact ⟨by omega, by omega, by omega, by omega⟩
theorem rnum_some {s : ByteArray} {p : Nat} {v : Int} {q : Nat} (h : numR s p = some (v, q)) : q = p + 4 ∧ q ≤ s.size ∧ 0 ≤ v ∧ v ≤ 4294967295 := by
  unfold numR at h
  cases h1 : takeR s p 4 with
  | none => rw [h1] at h; cases h
  | some b =>
    obtain ⟨b, q'⟩ := b
    rw [h1] at h
    simp only [Option.map_some, Option.some.injEq, Prod.mk.injEq] at h
    obtain ⟨rfl, rfl⟩ := h
    have := take_size h1
    have := bt_range b 0; have := bt_range b 1; have := bt_range b 2; have := bt_range b 3
    refine ⟨by omega, by omega, ?_, ?_⟩ <;> unfold num4 <;> omega
theorem smallr_calls (g : Nat) (s : ByteArray) (p : Nat) (w : World) (h : RD w g s p) (hp : p ≤ s.size) (hs : s.size ≤ 1000000000000) : Calls Try.prog 44 #[.pointer (some ⟨g, 0, none⟩)] w fun x w' => AfterI g w s (smallR s p) x w' := by
  have H := Aside0.mk h; have HP := Aside0.mk hp; have HS := Aside0.mk hs
  clear h hp hs
  cases ht : takeR s p 1 with
  | none =>
    have HT := Aside0.mk ht; clear ht
    go_enter Try.func44, Try.ntmps44
    go_wp2_with (go_at_call 46; (with_reducible refine (take_lit g s p 1 1 rfl _ H.out HP.out HS.out (by omega)).mono ?_); rintro e w1 hx; rw [HT.out] at hx; obtain ⟨rfl, hf⟩ := hx; have F := Aside0.mk hf; clear hf)
    refine ⟨rfl, ?_⟩
    show AfterI g w s (smallR s p) (gaveUp 3) _
    rw [show smallR s p = none by unfold smallR; rw [HT.out]; rfl]
    exact ⟨rfl, F.out⟩
  | some b =>
    obtain ⟨b, q⟩ := b
    have hb := take_size ht
    have hb0 : 0 < b.size := by omega
    have HT := Aside0.mk ht; have HB := Aside0.mk hb; clear ht hb
    have HBT := Aside0.mk (show wrap64 (((b[0]'hb0).toNat : Int)) = bt b 0 by have h2 := bt_range b 0; have h1 : ((b[0]'hb0).toNat : Int) = bt b 0 := bt_at b 0 hb0; rw [h1]; unfold wrap64; omega)
    go_enter Try.func44, Try.ntmps44
    go_wp2_with (go_at_call 46; (with_reducible refine (take_lit g s p 1 1 rfl _ H.out HP.out HS.out (by omega)).mono ?_); rintro e w1 hx; rw [HT.out] at hx; obtain ⟨rfl, hk, hf⟩ := hx; have F := Aside0.mk hf; have HK := Aside0.mk hk; clear hf hk)
    go_ret
    show AfterI g w s (smallR s p) _ _
    rw [show smallR s p = some (bt b 0, q) by unfold smallR; rw [HT.out]; rfl]
    exact ⟨by show Ending.returned (.int .i64 (wrap64 ((b[0]'hb0).toNat : Int))) = _; rw [HBT.out], HK.out, F.out⟩
def nv (b : ByteArray) : Nat → Int
  | 0 => 0
  | k + 1 => nv b k * 256 + bt b k
theorem or_join (x y : Int) (h0 : 0 ≤ x) (h1 : x < 16777216) (h2 : 0 ≤ y) (h3 : y < 256) : bits .or .i64 (x * 256) y = x * 256 + y :=
  bits_join .i64 40 (by decide) (fun n a b => by rw [IntKind.wrap_i64]; omega) 8 (x * 256) y (by omega) (by omega) (by omega) h2 (by omega) (by omega)
theorem nv_range (b : ByteArray) (k : Nat) (h : k ≤ 3) : 0 ≤ nv b k ∧ nv b k ≤ 16777215 := by
  have h0 := bt_range b (0 : Nat); have h1 := bt_range b (1 : Nat); have h2 := bt_range b (2 : Nat)
  rcases (show k = 0 ∨ k = 1 ∨ k = 2 ∨ k = 3 by omega) with rfl | rfl | rfl | rfl <;> simp only [nv] <;> omega
theorem numr_calls (g : Nat) (s : ByteArray) (p : Nat) (w : World) (h : RD w g s p) (hp : p ≤ s.size) (hs : s.size ≤ 1000000000000) : Calls Try.prog 45 #[.pointer (some ⟨g, 0, none⟩)] w fun x w' => AfterI g w s (numR s p) x w' := by
  have H := Aside0.mk h; have HP := Aside0.mk hp; have HS := Aside0.mk hs
  clear h hp hs
  cases ht : takeR s p 4 with
  | none =>
    have HT := Aside0.mk ht; clear ht
    go_enter Try.func45, Try.ntmps45
    go_wp2_with (go_at_call 46; (with_reducible refine (take_lit g s p 4 4 rfl _ H.out HP.out HS.out (by omega)).mono ?_); rintro e w1 hx; rw [HT.out] at hx; obtain ⟨rfl, hf⟩ := hx; have F := Aside0.mk hf; clear hf)
    refine ⟨rfl, ?_⟩
    show AfterI g w s (numR s p) (gaveUp 3) _
    rw [show numR s p = none by unfold numR; rw [HT.out]; rfl]
    exact ⟨rfl, F.out⟩
  | some b =>
    obtain ⟨b, q⟩ := b
    have hb := take_size ht
    have hb0 : 3 < b.size := by omega
    have hsz : (b.size : Int) = 4 := by omega
    have HT := Aside0.mk ht; have HB := Aside0.mk hb; clear ht hb
    have HBT := Aside0.mk (show ∀ (i : Nat) (h : i < b.size), ((b[i]'h).toNat : Int) = bt b i from fun i h => by have := bt_at b (i : Int) (by simpa using h); simpa using this)
    go_enter Try.func45, Try.ntmps45
    go_wp2_with (first | (go_at_call 46; (with_reducible refine (take_lit g s p 4 4 rfl _ H.out HP.out HS.out (by omega)).mono ?_); rintro e w1 hx; rw [HT.out] at hx; obtain ⟨rfl, hk, hf⟩ := hx; have F := Aside0.mk hf; have HK := Aside0.mk hk; clear hf hk; obtain ⟨cc, w3, hrun, hcc, hh, hb3⟩ := Bof.made (P := Try.prog) w1 9 55 5 b rfl rfl rfl; have HH := Aside0.mk hh; have HK3 := Aside0.mk (HK.out.below hb3); have F3 := Aside0.mk (F.out.below hb3); clear hcc hh hb3))
    clear hrun
    go_loopw [2, 9, 4] (fun v i c wr => ∃ k : Nat, v = .int .i64 (nv b k) ∧ i = .int .i64 k ∧ Aside0 (k ≤ 4) ∧ Aside0 (∃ m, wr = w3.drewN m)) (fun _ i _ _ => 4 - (intOf i).toNat)
    case atStart => exact ⟨0, rfl, rfl, ⟨by omega⟩, ⟨0, rfl⟩⟩
    case round =>
      obtain ⟨k, rfl, rfl, K, HW⟩ := hrel
      by_cases hlt : k < 4
      · have h1 : (k : Int) < 4 := by omega
        have hkb : k < b.size := by omega
        have hc : wr.cell? ⟨w1.heap.size, k, none⟩ = some (.int .u8 ((b[k]'hkb).toNat : Int)) := by
          obtain ⟨m, rfl⟩ := HW.out
          exact HH.out.cell k hkb
        have hn := nv_range b k (by omega)
        have HLT := Aside0.mk hlt; clear hlt
        have HOR := Aside0.mk (show bits .or .i64 (nv b k * 256) (wrap64 ((b[k]'hkb).toNat : Int)) = nv b (k + 1) by
          have h2 := bt_range b (k : Int)
          rw [HBT.out k hkb, show wrap64 (bt b (k : Int)) = bt b (k : Int) by unfold wrap64; omega, or_join _ _ (by omega) (by omega) (by omega) (by omega)]
          rfl)
        go_wp2
        refine ⟨⟨k + 1, congrArg (Value.int .i64) HOR.out, rfl, ⟨HLT.out⟩, HW⟩, ?_⟩
        have := HLT.out
        show 4 - (intOf (.int .i64 ((k + 1 : Nat) : Int))).toNat < 4 - (intOf (.int .i64 (k : Int))).toNat
        simp only [intOf]; omega
      · obtain rfl : k = 4 := by have := K.out; omega
        obtain ⟨m, rfl⟩ := HW.out
        clear hlt HW
        go_wp2
        go_ret
        show AfterI g w s (numR s p) _ _
        rw [show numR s p = some (num4 b, q) by unfold numR; rw [HT.out]; rfl]
        refine ⟨?_, HK3.out.below (pw_below_drewN (Below.refl _ _) _), F3.out.below (pw_below_drewN (Below.refl _ _) _)⟩
        show Ending.returned (.int .i64 (nv b 4)) = _
        have e : nv b 4 = num4 b := by unfold num4; simp only [nv]; simp
        rw [e]
end Go.Proofs.Ytcfknakmamcinaa.Wr
namespace Go.Proofs.Ytcfknakmamcinaa.Wr
open Go.Proofs.Ytcfknakmamcinaa.Rgn
open Go.Proofs.Ytcfknakmamcinaa.Rp Go.Proofs.Ytcfknakmamcinaa.X4
open Go Go.RowKit Go.ChangeMaps Go.Proofs.Ytcfknakmamcinaa.Arr Go.Proofs.Ytcfknakmamcinaa.Ow Go.Proofs.YtcfknakmamcinaaW.PrintWords Go.Proofs.YtcfknakmamcinaaW.PrintLast Go.Proofs.YtcfknakmamcinaaW.PrintMore
set_option linter.unusedVariables false
set_option linter.unusedSimpArgs false
theorem keep_set {w : World} {o g : Nat} {x : Obj} (h : w.heap[g]? = some x) (hn : g ≠ o) (j : Nat) (v : Value) : (w.setCell ⟨o, j, none⟩ v).heap[g]? = some x := (Below.heap_setCell w ⟨o, j, none⟩ v g hn).trans h
theorem RD.keep {w : World} {o g p : Nat} {s : ByteArray} (h : RD w g s p) (hn : g ≠ o) (j : Nat) (v : Value) : RD (w.setCell ⟨o, j, none⟩ v) g s p := keep_set h hn j v
theorem FS.fresh {S : Nat → Prop} {a b : World} (h : FS S a b) (j : Nat) (v : Value) : FS S a (b.setCell ⟨a.heap.size, j, none⟩ v) := h.setCell (p := ⟨a.heap.size, j, none⟩) (.inr (Nat.le_refl _)) v
def rowT1 (s : ByteArray) (p : Nat) : Option (S66 × Nat) := (numR s p).bind fun a => (numR s a.2).bind fun b => (numR s b.2).bind fun c => some (⟨a.1, b.1, c.1⟩, c.2)
def rowQ1 (s : ByteArray) (p : Nat) : Option (S68 × Nat) := (smallR s p).bind fun a => (numR s a.2).bind fun b => some (⟨a.1, b.1⟩, b.2)
def rowsT (s : ByteArray) : Nat → Nat → Option (List S66 × Nat)
  | 0, p => some ([], p)
  | n + 1, p => (rowsT s n p).bind fun x => (rowT1 s x.2).bind fun r => some (x.1 ++ [r.1], r.2)
def rowsQ (s : ByteArray) : Nat → Nat → Option (List S68 × Nat)
  | 0, p => some ([], p)
  | n + 1, p => (rowsQ s n p).bind fun x => (rowQ1 s x.2).bind fun r => some (x.1 ++ [r.1], r.2)
def recR (s : ByteArray) (p : Nat) : Option (S25 × Nat) := (smallR s p).bind fun a =>
  if a.1 = 1 then (numR s a.2).bind fun t => (numR s t.2).bind fun v => (smallR s v.2).bind fun pg => (smallR s pg.2).bind fun o => (smallR s o.2).bind fun n => (takeR s n.2 n.1.toNat).bind fun b => (takeR s b.2 n.1.toNat).bind fun f => some (⟨1, t.1, pg.1, o.1, v.1, 0, 0, b.1, f.1, [], []⟩, f.2)
  else if a.1 = 2 then (numR s a.2).bind fun t => (numR s t.2).bind fun v => (numR s v.2).bind fun x => (smallR s x.2).bind fun pg => (smallR s pg.2).bind fun o => (smallR s o.2).bind fun n => (takeR s n.2 n.1.toNat).bind fun f => some (⟨2, t.1, pg.1, o.1, v.1, x.1, 0, ⟨#[]⟩, f.1, [], []⟩, f.2)
  else if a.1 = 3 ∨ a.1 = 4 then (numR s a.2).bind fun t => (numR s t.2).bind fun v => some (⟨a.1, t.1, 0, 0, v.1, 0, 0, ⟨#[]⟩, ⟨#[]⟩, [], []⟩, v.2)
  else if a.1 = 6 then (numR s a.2).bind fun b => (smallR s b.2).bind fun n => (rowsT s n.1.toNat n.2).bind fun x => (smallR s x.2).bind fun m => (rowsQ s m.1.toNat m.2).bind fun y => some (⟨6, 0, 0, 0, 0, 0, b.1, ⟨#[]⟩, ⟨#[]⟩, x.1, y.1⟩, y.2)
  else some (⟨a.1, 0, 0, 0, 0, 0, 0, ⟨#[]⟩, ⟨#[]⟩, [], []⟩, a.2)
/-- What the reader's 'rec' does. -/
def AfterX (g : Nat) (w : World) (s : ByteArray) (p : Nat) (x : Ending) (w' : World) : Prop :=
  match recR s p with
  | some q => ∃ v9 v10 : Value, x = .returned (.agg #[.int .i64 q.1.f0, .int .i64 q.1.f1, .int .i64 q.1.f2, .int .i64 q.1.f3, .int .i64 q.1.f4, .int .i64 q.1.f5, .int .i64 q.1.f6, .string q.1.f7, .string q.1.f8, v9, v10]) ∧ Kd.R k66 66 w' w.heap.size (fun _ => True) v9 q.1.f9 ∧ Kd.R k68 68 w' w.heap.size (fun _ => True) v10 q.1.f10 ∧ RD w' g s q.2 ∧ FS (One g) w w'
  | none => x = gaveUp 3 ∧ FS (One g) w w'
set_option maxHeartbeats 4000000 in
theorem rrec_three (g : Nat) (s : ByteArray) (p p1 : Nat) (w : World) (h : RD w g s p) (hp : p ≤ s.size) (hs : s.size ≤ 1000000000) (h0 : smallR s p = some (3, p1)) : Calls Try.prog 31 #[.pointer (some ⟨g, 0, none⟩)] w fun x w' => AfterX g w s p x w' := by
  have HS := Aside0.mk (show s.size ≤ 1000000000000 by omega); have HL := Aside0.mk hp
  have HE := Aside0.mk (show recR s p = (numR s p1).bind fun t => (numR s t.2).bind fun v => some (⟨3, t.1, 0, 0, v.1, 0, 0, ⟨#[]⟩, ⟨#[]⟩, [], []⟩, v.2) by unfold recR; rw [h0, Option.bind_some]; simp only; rw [if_neg (by decide), if_neg (by decide), if_pos (by decide)])
  have HL1 := Aside0.mk (show p1 ≤ s.size from (small_some h0).2.1)
  have HP1 := Aside0.mk h0
  have HGN := Aside0.mk (show g ≠ w.heap.size from Nat.ne_of_lt (blk_lt h))
  have HGO := Aside0.mk (show ¬ One g w.heap.size from fun e => HGN.out (e : w.heap.size = g).symm)
  have HR0 := Aside0.mk (h.below ((Below.refl _ _).alloc (Nat.le_refl _) (.cells #[.int .i64 0, .int .i64 0, .int .i64 0, .int .i64 0, .int .i64 0, .int .i64 0, .int .i64 0, .string ⟨#[]⟩, .string ⟨#[]⟩, .slice none 0 0, .slice none 0 0] 25)))
  have F0 := Aside0.mk ((FS.refl (One g) w).alloc (.cells #[.int .i64 0, .int .i64 0, .int .i64 0, .int .i64 0, .int .i64 0, .int .i64 0, .int .i64 0, .string ⟨#[]⟩, .string ⟨#[]⟩, .slice none 0 0, .slice none 0 0] 25))
  have HO0 := Aside0.mk (heap_alloc_new w (.cells #[.int .i64 0, .int .i64 0, .int .i64 0, .int .i64 0, .int .i64 0, .int .i64 0, .int .i64 0, .string ⟨#[]⟩, .string ⟨#[]⟩, .slice none 0 0, .slice none 0 0] 25))
  clear h hp hs h0
  go_enter Try.func31, Try.ntmps31
  go_upto_region 1 with (fail)
  generalize w.alloc (.cells #[.int .i64 0, .int .i64 0, .int .i64 0, .int .i64 0, .int .i64 0, .int .i64 0, .int .i64 0, .string ⟨#[]⟩, .string ⟨#[]⟩, .slice none 0 0, .slice none 0 0] 25) = W1 at *
  go_upto_region 2 with (go_at_call 44; (with_reducible refine (smallr_calls g s p _ HR0.out HL.out HS.out).mono ?_); rintro e w1 hx; rw [HP1.out] at hx; obtain ⟨rfl, hk_, hf_⟩ := hx; have HR1 := Aside0.mk hk_; have F1 := Aside0.mk (F0.out.trans hf_); have HO1 := Aside0.mk (hf_.old HO0.out HGO.out); clear hk_ hf_ HR0 F0 HO0; have y0 : w1.cell? ⟨w.heap.size, 0, none⟩ = some _ := blk_cell HO1.out 0; have f0 := blk_frozen HO1.out 0)
  have HO1x := Aside0.mk (show (w1.setCell ⟨w.heap.size, 0, none⟩ (.int .i64 3)).heap[w.heap.size]? = some (.cells #[.int .i64 3, .int .i64 0, .int .i64 0, .int .i64 0, .int .i64 0, .int .i64 0, .int .i64 0, .string ⟨#[]⟩, .string ⟨#[]⟩, .slice none 0 0, .slice none 0 0] 25 (0, 0)) from set_blk HO1.out 0 (.int .i64 3))
  have HR1x := Aside0.mk (show RD (w1.setCell ⟨w.heap.size, 0, none⟩ (.int .i64 3)) g s p1 from keep_set HR1.out HGN.out 0 _)
  have F1x := Aside0.mk (FS.fresh F1.out 0 (.int .i64 3))
  have HL1x := HL1
  clear HO1 HR1 F1 y0 f0
  generalize w1.setCell ⟨w.heap.size, 0, none⟩ (.int .i64 3) = u1 at *
  have k0 : u1.cell? ⟨w.heap.size, 0, none⟩ = some (.int .i64 3) := blk_cell HO1x.out 0
  go_upto_region 7 with (fail)
  cases hp2 : numR s p1 with
  | none =>
    have HP2 := Aside0.mk hp2; clear hp2
    go_wp2_with (first | (go_at_call 45; (with_reducible refine (numr_calls g s p1 _ HR1x.out HL1x.out HS.out).mono ?_); rintro e w2 hx; rw [HP2.out] at hx; obtain ⟨rfl, hf_⟩ := hx; have F2 := Aside0.mk (F1x.out.trans hf_); clear hf_))
    refine ⟨rfl, ?_⟩
    show AfterX g w s p (gaveUp 3) _
    unfold AfterX
    rw [show recR s p = none by rw [HE.out]; simp only [HP2.out, Option.bind_some, Option.bind_none]]
    exact ⟨rfl, F2.out⟩
  | some q_ =>
  obtain ⟨t_, p2⟩ := q_
  have HL2 := Aside0.mk (show p2 ≤ s.size from (rnum_some hp2).2.1)
  have HP2 := Aside0.mk hp2; clear hp2
  cases hp3 : numR s p2 with
  | none =>
    have HP3 := Aside0.mk hp3; clear hp3
    go_wp2_with (first | (go_at_call 45; (with_reducible refine (numr_calls g s p1 _ HR1x.out HL1x.out HS.out).mono ?_); rintro e w2 hx; rw [HP2.out] at hx; obtain ⟨rfl, hk_, hf_⟩ := hx; have HR2 := Aside0.mk hk_; have F2 := Aside0.mk (F1x.out.trans hf_); have HO2 := Aside0.mk (hf_.old HO1x.out HGO.out); clear hk_ hf_ HR1x F1x HO1x) | (go_at_call 45; (with_reducible refine (numr_calls g s p2 _ HR2.out HL2.out HS.out).mono ?_); rintro e w3 hx; rw [HP3.out] at hx; obtain ⟨rfl, hf_⟩ := hx; have F3 := Aside0.mk (F2.out.trans hf_); clear hf_))
    refine ⟨rfl, ?_⟩
    show AfterX g w s p (gaveUp 3) _
    unfold AfterX
    rw [show recR s p = none by rw [HE.out]; simp only [HP2.out, HP3.out, Option.bind_some, Option.bind_none]]
    exact ⟨rfl, F3.out⟩
  | some q_ =>
  obtain ⟨v_, p3⟩ := q_
  have HL3 := Aside0.mk (show p3 ≤ s.size from (rnum_some hp3).2.1)
  have HP3 := Aside0.mk hp3; clear hp3
  go_upto_region 8 with (first | (go_at_call 45; (with_reducible refine (numr_calls g s p1 _ HR1x.out HL1x.out HS.out).mono ?_); rintro e w2 hx; rw [HP2.out] at hx; obtain ⟨rfl, hk_, hf_⟩ := hx; have HR2 := Aside0.mk hk_; have F2 := Aside0.mk (F1x.out.trans hf_); have HO2 := Aside0.mk (hf_.old HO1x.out HGO.out); clear hk_ hf_ HR1x F1x HO1x) | (go_at_call 45; (with_reducible refine (numr_calls g s p2 _ HR2.out HL2.out HS.out).mono ?_); rintro e w3 hx; rw [HP3.out] at hx; obtain ⟨rfl, hk_, hf_⟩ := hx; have HR3 := Aside0.mk hk_; have F3 := Aside0.mk (F2.out.trans hf_); have HO3 := Aside0.mk (hf_.old HO2.out HGO.out); clear hk_ hf_ HR2 F2 HO2; have y1 : w3.cell? ⟨w.heap.size, 1, none⟩ = some _ := blk_cell HO3.out 1; have f1 := blk_frozen HO3.out 1; have y4 : w3.cell? ⟨w.heap.size, 4, none⟩ = some _ := blk_cell HO3.out 4; have f4 := blk_frozen HO3.out 4))
  have HO3x := Aside0.mk (show ((w3.setCell ⟨w.heap.size, 1, none⟩ (.int .i64 t_)).setCell ⟨w.heap.size, 4, none⟩ (.int .i64 v_)).heap[w.heap.size]? = some (.cells #[.int .i64 3, .int .i64 t_, .int .i64 0, .int .i64 0, .int .i64 v_, .int .i64 0, .int .i64 0, .string ⟨#[]⟩, .string ⟨#[]⟩, .slice none 0 0, .slice none 0 0] 25 (0, 0)) from (set_blk (set_blk HO3.out 1 (.int .i64 t_)) 4 (.int .i64 v_)))
  have HR3x := Aside0.mk (show RD ((w3.setCell ⟨w.heap.size, 1, none⟩ (.int .i64 t_)).setCell ⟨w.heap.size, 4, none⟩ (.int .i64 v_)) g s p3 from (keep_set (keep_set HR3.out HGN.out 1 (.int .i64 t_)) HGN.out 4 (.int .i64 v_)))
  have F3x := Aside0.mk (FS.fresh (FS.fresh F3.out 1 (.int .i64 t_)) 4 (.int .i64 v_))
  have HL3x := HL3
  clear HO3 HR3 F3 y1 f1 y4 f4
  generalize (w3.setCell ⟨w.heap.size, 1, none⟩ (.int .i64 t_)).setCell ⟨w.heap.size, 4, none⟩ (.int .i64 v_) = u3 at *
  (try clear k0)
  have k0 : u3.cell? ⟨w.heap.size, 0, none⟩ = some (.int .i64 3) := blk_cell HO3x.out 0
  go_upto_region 11 with (fail)
  clear k0
  obtain ⟨x0, f0, x1, f1, x2, f2, x3, f3, x4, f4, x5, f5, x6, f6, x7, f7, x8, f8, x9, f9, x10, f10⟩ := cellsF11 u3 (w.heap.size) HO3x.out
  have HB_ := HO3x; have HRR := HR3x; have FFF := F3x
  go_wp2
  refine bodyPost_ret (v := .agg #[.int .i64 3, .int .i64 t_, .int .i64 0, .int .i64 0, .int .i64 v_, .int .i64 0, .int .i64 0, .string ⟨#[]⟩, .string ⟨#[]⟩, .slice none 0 0, .slice none 0 0]) (by simp [results, Try.results31, go_sem, x0, x1, x2, x3, x4, x5, x6, x7, x8, x9, x10]) rfl ?_
  show AfterX g w s p _ _
  unfold AfterX
  rw [show recR s p = some ((⟨3, t_, 0, 0, v_, 0, 0, ⟨#[]⟩, ⟨#[]⟩, [], []⟩ : S25), p3) by rw [HE.out]; (try simp only [HP2.out, HP3.out, Option.bind_some])]
  refine ⟨_, _, rfl, Kd.R_nil _ _ _ _ _, Kd.R_nil _ _ _ _ _, ?_, ?_⟩
  · show RD _ g s p3
    repeat (first | (with_reducible refine RD.keep ?_ HGN.out _ _) | (with_reducible exact HRR.out))
  · repeat (first | (with_reducible refine FS.fresh ?_ _ _) | (with_reducible exact FFF.out))
set_option maxHeartbeats 4000000 in
theorem rrec_four (g : Nat) (s : ByteArray) (p p1 : Nat) (w : World) (h : RD w g s p) (hp : p ≤ s.size) (hs : s.size ≤ 1000000000) (h0 : smallR s p = some (4, p1)) : Calls Try.prog 31 #[.pointer (some ⟨g, 0, none⟩)] w fun x w' => AfterX g w s p x w' := by
  have HS := Aside0.mk (show s.size ≤ 1000000000000 by omega); have HL := Aside0.mk hp
  have HE := Aside0.mk (show recR s p = (numR s p1).bind fun t => (numR s t.2).bind fun v => some (⟨4, t.1, 0, 0, v.1, 0, 0, ⟨#[]⟩, ⟨#[]⟩, [], []⟩, v.2) by unfold recR; rw [h0, Option.bind_some]; simp only; rw [if_neg (by decide), if_neg (by decide), if_pos (by decide)])
  have HL1 := Aside0.mk (show p1 ≤ s.size from (small_some h0).2.1)
  have HP1 := Aside0.mk h0
  have HGN := Aside0.mk (show g ≠ w.heap.size from Nat.ne_of_lt (blk_lt h))
  have HGO := Aside0.mk (show ¬ One g w.heap.size from fun e => HGN.out (e : w.heap.size = g).symm)
  have HR0 := Aside0.mk (h.below ((Below.refl _ _).alloc (Nat.le_refl _) (.cells #[.int .i64 0, .int .i64 0, .int .i64 0, .int .i64 0, .int .i64 0, .int .i64 0, .int .i64 0, .string ⟨#[]⟩, .string ⟨#[]⟩, .slice none 0 0, .slice none 0 0] 25)))
  have F0 := Aside0.mk ((FS.refl (One g) w).alloc (.cells #[.int .i64 0, .int .i64 0, .int .i64 0, .int .i64 0, .int .i64 0, .int .i64 0, .int .i64 0, .string ⟨#[]⟩, .string ⟨#[]⟩, .slice none 0 0, .slice none 0 0] 25))
  have HO0 := Aside0.mk (heap_alloc_new w (.cells #[.int .i64 0, .int .i64 0, .int .i64 0, .int .i64 0, .int .i64 0, .int .i64 0, .int .i64 0, .string ⟨#[]⟩, .string ⟨#[]⟩, .slice none 0 0, .slice none 0 0] 25))
  clear h hp hs h0
  go_enter Try.func31, Try.ntmps31
  go_upto_region 1 with (fail)
  generalize w.alloc (.cells #[.int .i64 0, .int .i64 0, .int .i64 0, .int .i64 0, .int .i64 0, .int .i64 0, .int .i64 0, .string ⟨#[]⟩, .string ⟨#[]⟩, .slice none 0 0, .slice none 0 0] 25) = W1 at *
  go_upto_region 2 with (go_at_call 44; (with_reducible refine (smallr_calls g s p _ HR0.out HL.out HS.out).mono ?_); rintro e w1 hx; rw [HP1.out] at hx; obtain ⟨rfl, hk_, hf_⟩ := hx; have HR1 := Aside0.mk hk_; have F1 := Aside0.mk (F0.out.trans hf_); have HO1 := Aside0.mk (hf_.old HO0.out HGO.out); clear hk_ hf_ HR0 F0 HO0; have y0 : w1.cell? ⟨w.heap.size, 0, none⟩ = some _ := blk_cell HO1.out 0; have f0 := blk_frozen HO1.out 0)
  have HO1x := Aside0.mk (show (w1.setCell ⟨w.heap.size, 0, none⟩ (.int .i64 4)).heap[w.heap.size]? = some (.cells #[.int .i64 4, .int .i64 0, .int .i64 0, .int .i64 0, .int .i64 0, .int .i64 0, .int .i64 0, .string ⟨#[]⟩, .string ⟨#[]⟩, .slice none 0 0, .slice none 0 0] 25 (0, 0)) from set_blk HO1.out 0 (.int .i64 4))
  have HR1x := Aside0.mk (show RD (w1.setCell ⟨w.heap.size, 0, none⟩ (.int .i64 4)) g s p1 from keep_set HR1.out HGN.out 0 _)
  have F1x := Aside0.mk (FS.fresh F1.out 0 (.int .i64 4))
  have HL1x := HL1
  clear HO1 HR1 F1 y0 f0
  generalize w1.setCell ⟨w.heap.size, 0, none⟩ (.int .i64 4) = u1 at *
  have k0 : u1.cell? ⟨w.heap.size, 0, none⟩ = some (.int .i64 4) := blk_cell HO1x.out 0
  go_upto_region 7 with (fail)
  cases hp2 : numR s p1 with
  | none =>
    have HP2 := Aside0.mk hp2; clear hp2
    go_wp2_with (first | (go_at_call 45; (with_reducible refine (numr_calls g s p1 _ HR1x.out HL1x.out HS.out).mono ?_); rintro e w2 hx; rw [HP2.out] at hx; obtain ⟨rfl, hf_⟩ := hx; have F2 := Aside0.mk (F1x.out.trans hf_); clear hf_))
    refine ⟨rfl, ?_⟩
    show AfterX g w s p (gaveUp 3) _
    unfold AfterX
    rw [show recR s p = none by rw [HE.out]; simp only [HP2.out, Option.bind_some, Option.bind_none]]
    exact ⟨rfl, F2.out⟩
  | some q_ =>
  obtain ⟨t_, p2⟩ := q_
  have HL2 := Aside0.mk (show p2 ≤ s.size from (rnum_some hp2).2.1)
  have HP2 := Aside0.mk hp2; clear hp2
  cases hp3 : numR s p2 with
  | none =>
    have HP3 := Aside0.mk hp3; clear hp3
    go_wp2_with (first | (go_at_call 45; (with_reducible refine (numr_calls g s p1 _ HR1x.out HL1x.out HS.out).mono ?_); rintro e w2 hx; rw [HP2.out] at hx; obtain ⟨rfl, hk_, hf_⟩ := hx; have HR2 := Aside0.mk hk_; have F2 := Aside0.mk (F1x.out.trans hf_); have HO2 := Aside0.mk (hf_.old HO1x.out HGO.out); clear hk_ hf_ HR1x F1x HO1x) | (go_at_call 45; (with_reducible refine (numr_calls g s p2 _ HR2.out HL2.out HS.out).mono ?_); rintro e w3 hx; rw [HP3.out] at hx; obtain ⟨rfl, hf_⟩ := hx; have F3 := Aside0.mk (F2.out.trans hf_); clear hf_))
    refine ⟨rfl, ?_⟩
    show AfterX g w s p (gaveUp 3) _
    unfold AfterX
    rw [show recR s p = none by rw [HE.out]; simp only [HP2.out, HP3.out, Option.bind_some, Option.bind_none]]
    exact ⟨rfl, F3.out⟩
  | some q_ =>
  obtain ⟨v_, p3⟩ := q_
  have HL3 := Aside0.mk (show p3 ≤ s.size from (rnum_some hp3).2.1)
  have HP3 := Aside0.mk hp3; clear hp3
  go_upto_region 8 with (first | (go_at_call 45; (with_reducible refine (numr_calls g s p1 _ HR1x.out HL1x.out HS.out).mono ?_); rintro e w2 hx; rw [HP2.out] at hx; obtain ⟨rfl, hk_, hf_⟩ := hx; have HR2 := Aside0.mk hk_; have F2 := Aside0.mk (F1x.out.trans hf_); have HO2 := Aside0.mk (hf_.old HO1x.out HGO.out); clear hk_ hf_ HR1x F1x HO1x) | (go_at_call 45; (with_reducible refine (numr_calls g s p2 _ HR2.out HL2.out HS.out).mono ?_); rintro e w3 hx; rw [HP3.out] at hx; obtain ⟨rfl, hk_, hf_⟩ := hx; have HR3 := Aside0.mk hk_; have F3 := Aside0.mk (F2.out.trans hf_); have HO3 := Aside0.mk (hf_.old HO2.out HGO.out); clear hk_ hf_ HR2 F2 HO2; have y1 : w3.cell? ⟨w.heap.size, 1, none⟩ = some _ := blk_cell HO3.out 1; have f1 := blk_frozen HO3.out 1; have y4 : w3.cell? ⟨w.heap.size, 4, none⟩ = some _ := blk_cell HO3.out 4; have f4 := blk_frozen HO3.out 4))
  have HO3x := Aside0.mk (show ((w3.setCell ⟨w.heap.size, 1, none⟩ (.int .i64 t_)).setCell ⟨w.heap.size, 4, none⟩ (.int .i64 v_)).heap[w.heap.size]? = some (.cells #[.int .i64 4, .int .i64 t_, .int .i64 0, .int .i64 0, .int .i64 v_, .int .i64 0, .int .i64 0, .string ⟨#[]⟩, .string ⟨#[]⟩, .slice none 0 0, .slice none 0 0] 25 (0, 0)) from (set_blk (set_blk HO3.out 1 (.int .i64 t_)) 4 (.int .i64 v_)))
  have HR3x := Aside0.mk (show RD ((w3.setCell ⟨w.heap.size, 1, none⟩ (.int .i64 t_)).setCell ⟨w.heap.size, 4, none⟩ (.int .i64 v_)) g s p3 from (keep_set (keep_set HR3.out HGN.out 1 (.int .i64 t_)) HGN.out 4 (.int .i64 v_)))
  have F3x := Aside0.mk (FS.fresh (FS.fresh F3.out 1 (.int .i64 t_)) 4 (.int .i64 v_))
  have HL3x := HL3
  clear HO3 HR3 F3 y1 f1 y4 f4
  generalize (w3.setCell ⟨w.heap.size, 1, none⟩ (.int .i64 t_)).setCell ⟨w.heap.size, 4, none⟩ (.int .i64 v_) = u3 at *
  (try clear k0)
  have k0 : u3.cell? ⟨w.heap.size, 0, none⟩ = some (.int .i64 4) := blk_cell HO3x.out 0
  go_upto_region 11 with (fail)
  clear k0
  obtain ⟨x0, f0, x1, f1, x2, f2, x3, f3, x4, f4, x5, f5, x6, f6, x7, f7, x8, f8, x9, f9, x10, f10⟩ := cellsF11 u3 (w.heap.size) HO3x.out
  have HB_ := HO3x; have HRR := HR3x; have FFF := F3x
  go_wp2
  refine bodyPost_ret (v := .agg #[.int .i64 4, .int .i64 t_, .int .i64 0, .int .i64 0, .int .i64 v_, .int .i64 0, .int .i64 0, .string ⟨#[]⟩, .string ⟨#[]⟩, .slice none 0 0, .slice none 0 0]) (by simp [results, Try.results31, go_sem, x0, x1, x2, x3, x4, x5, x6, x7, x8, x9, x10]) rfl ?_
  show AfterX g w s p _ _
  unfold AfterX
  rw [show recR s p = some ((⟨4, t_, 0, 0, v_, 0, 0, ⟨#[]⟩, ⟨#[]⟩, [], []⟩ : S25), p3) by rw [HE.out]; (try simp only [HP2.out, HP3.out, Option.bind_some])]
  refine ⟨_, _, rfl, Kd.R_nil _ _ _ _ _, Kd.R_nil _ _ _ _ _, ?_, ?_⟩
  · show RD _ g s p3
    repeat (first | (with_reducible refine RD.keep ?_ HGN.out _ _) | (with_reducible exact HRR.out))
  · repeat (first | (with_reducible refine FS.fresh ?_ _ _) | (with_reducible exact FFF.out))
end Go.Proofs.Ytcfknakmamcinaa.Wr
namespace Go.Proofs.Ytcfknakmamcinaa.Wr
open Go.Proofs.Ytcfknakmamcinaa.Rgn
open Go.Proofs.Ytcfknakmamcinaa.Rp Go.Proofs.Ytcfknakmamcinaa.X4
open Go Go.RowKit Go.ChangeMaps Go.Proofs.Ytcfknakmamcinaa.Arr Go.Proofs.Ytcfknakmamcinaa.Ow Go.Proofs.YtcfknakmamcinaaW.PrintWords Go.Proofs.YtcfknakmamcinaaW.PrintLast Go.Proofs.YtcfknakmamcinaaW.PrintMore
set_option linter.unusedVariables false
set_option linter.unusedSimpArgs false
set_option maxHeartbeats 1000000 in
theorem small_yes (g : Nat) (l : List UInt8) (n m : Int) (S : Nat → Prop) (w : World) (hS : Top S w) (h : WK w S g l) (hl : l.length ≤ 1000000) (h1 : 0 ≤ n) (h2 : n ≤ m) : Calls Try.prog 37 #[.pointer (some ⟨g, 0, none⟩), .int .i64 n, .int .i64 m] w fun x w' => x = .returned (.tuple #[]) ∧ WK w' S g (l ++ [b8 n]) ∧ FS S w w' := by
  have HS := Aside0.mk hS; have HW := Aside0.mk h; have HL := Aside0.mk hl; clear hS h hl
  have t1 : decide (0 ≤ n) = true := decide_eq_true h1
  have t2 : decide (n ≤ m) = true := decide_eq_true h2
  have HE := Aside0.mk (b8_nat n)
  clear h1 h2
  go_enter Try.func37, Try.ntmps37
  go_upto_region 1 with (go_at_call 24; (with_reducible refine (must_yes _ _).mono ?_); rintro e w1 ⟨rfl, rfl⟩)
  go_wp2_with (go_at_call 48; rw [← HE.out]; (with_reducible refine (writeByte_calls g l (b8 n) S _ HS.out HW.out HL.out).mono ?_); rintro e w1 ⟨rfl, hk, hf⟩; have HK := Aside0.mk hk; have F := Aside0.mk hf; clear hk hf)
  go_end0
  exact ⟨rfl, HK.out, F.out⟩
theorem small_no (g : Nat) (n m : Int) (w : World) (h : ¬ (0 ≤ n ∧ n ≤ m)) : Calls Try.prog 37 #[.pointer (some ⟨g, 0, none⟩), .int .i64 n, .int .i64 m] w fun x w' => x = gaveUp 1 ∧ w' = w := by
  by_cases h1 : 0 ≤ n
  · have t1 : decide (0 ≤ n) = true := decide_eq_true h1
    have t2 : decide (n ≤ m) = false := decide_eq_false (fun e => h ⟨h1, e⟩)
    clear h1 h
    go_enter Try.func37, Try.ntmps37
    go_wp2_with (go_at_call 24; (with_reducible refine (must_no _ _).mono ?_); rintro e w1 ⟨rfl, rfl⟩)
    exact ⟨rfl, rfl, rfl⟩
  · have t1 : decide (0 ≤ n) = false := decide_eq_false h1
    clear h1 h
    go_enter Try.func37, Try.ntmps37
    go_wp2_with (go_at_call 24; (with_reducible refine (must_no _ _).mono ?_); rintro e w1 ⟨rfl, rfl⟩)
    exact ⟨rfl, rfl, rfl⟩
theorem flat_len {xs : List Int} {k : Nat} (h : k ≤ xs.length) : ((xs.take k).flatMap four).length = 4 * k := by
  induction k with
  | zero => rfl
  | succ k ih =>
    rw [List.take_succ_eq_append_getElem (by omega), List.flatMap_append, List.length_append, ih (by omega)]
    simp [four]
    omega
theorem num_succ {xs : List Int} {k : Nat} {n : Int} (h : xs[k]? = some n) : (xs.take (k + 1)).flatMap four = (xs.take k).flatMap four ++ four n := by
  rw [List.take_add_one, h, List.flatMap_append]
  simp
theorem num_all {xs : List Int} {k : Nat} {n : Int} (ha : ∀ x ∈ xs.take k, isNum x = true) (h : xs[k]? = some n) (hn : isNum n = true) : ∀ x ∈ xs.take (k + 1), isNum x = true := by
  rw [List.take_add_one, h]
  intro x hx
  rcases List.mem_append.1 hx with hx | hx
  · exact ha x hx
  · simp at hx; rw [hx]; exact hn
theorem num_none {xs : List Int} {k : Nat} {n : Int} (h : xs[k]? = some n) (hn : ¬ isNum n = true) : numP xs = none := by
  unfold numP
  rw [if_neg]
  intro ha
  exact hn (List.all_eq_true.1 ha n (List.mem_of_getElem? h))
theorem num_some {xs : List Int} (h : ∀ x ∈ xs, isNum x = true) : numP xs = some (xs.flatMap four) := by
  unfold numP
  rw [if_pos (List.all_eq_true.2 h)]
/-- What a writer's function does: its bytes are behind the others, or it gives up. -/
def After (S : Nat → Prop) (g : Nat) (w : World) (l : List UInt8) (o : Option (List UInt8)) (x : Ending) (w' : World) : Prop :=
  match o with
  | some bs => x = .returned (.tuple #[]) ∧ WK w' S g (l ++ bs) ∧ FS S w w'
  | none => x = gaveUp 1 ∧ FS S w w'
theorem small_calls (g : Nat) (l : List UInt8) (n m : Int) (S : Nat → Prop) (w : World) (hS : Top S w) (h : WK w S g l) (hl : l.length ≤ 1000000) : Calls Try.prog 37 #[.pointer (some ⟨g, 0, none⟩), .int .i64 n, .int .i64 m] w fun x w' => After S g w l (smallP n m) x w' := by
  unfold smallP
  by_cases h1 : 0 ≤ n ∧ n ≤ m
  · rw [if_pos h1]
    exact small_yes g l n m S w hS h hl h1.1 h1.2
  · rw [if_neg h1]
    exact (small_no g n m w h1).mono fun x w' hx => ⟨hx.1, by rw [hx.2]; exact FS.refl _ _⟩
abbrev TI : TypeId := 3
set_option maxHeartbeats 4000000 in
theorem num_calls (g : Nat) (l : List UInt8) (xs : List Int) (b c : Nat) (S : Nat → Prop) (w : World) (hS : Top S w) (h : WK w S g l) (hb : w.heap[b]? = some (.cells (xs.map (Value.int .i64)).toArray TI (0, 0))) (hSb : ¬ S b) (hl : l.length + 4 * xs.length ≤ 1000000) : Calls Try.prog 39 #[.pointer (some ⟨g, 0, none⟩), .slice (some ⟨b, 0, none⟩) xs.length c] w fun x w' => After S g w l (numP xs) x w' := by
  have HS := Aside0.mk hS; have HL := Aside0.mk hl; have HB := Aside0.mk hb; have HSB := Aside0.mk hSb
  have HW := Aside0.mk h
  clear hS hl hb hSb h
  go_enter Try.func39, Try.ntmps39
  go_upto_region 1 with (fail)
  go_loopw [9] (fun v wr => ∃ k : Nat, v = .int .i64 k ∧ Aside0 (k ≤ xs.length) ∧ Aside0 (∀ x ∈ xs.take k, isNum x = true) ∧ Aside0 (WK wr S g (l ++ (xs.take k).flatMap four)) ∧ Aside0 (FS S w wr)) (fun v _ => xs.length - (intOf v).toNat)
  case atStart => exact ⟨0, rfl, ⟨Nat.zero_le _⟩, ⟨fun x hx => by simp at hx⟩, ⟨by simpa using HW.out⟩, ⟨FS.refl _ _⟩⟩
  case round =>
    clear HW
    obtain ⟨k, rfl, K, HA, HW, F⟩ := hrel
    by_cases hlt : k < xs.length
    · have h1 : (k : Int) < (xs.length : Int) := by omega
      have hwk : wrap64 ((k : Int) + 1) = ((k + 1 : Nat) : Int) := by have := HL.out; unfold wrap64; omega
      obtain ⟨n, hn⟩ : ∃ n, xs[k]? = some n := ⟨_, List.getElem?_eq_getElem hlt⟩
      have HN := Aside0.mk hn; have HLT := Aside0.mk hlt
      have q0 : wr.cell? ⟨b, k, none⟩ = some (.int .i64 n) := (blk_cell (F.out.old HB.out HSB.out) k).trans (by simp [hn])
      clear hn hlt
      by_cases hnum : isNum n = true
      · have hnn := (isNum_iff n).1 hnum
        have t1 : decide (0 ≤ n) = true := decide_eq_true hnn.1
        have t2 : decide (n ≤ 2147483647) = true := decide_eq_true hnn.2
        have HNN := Aside0.mk hnn; have HNU := Aside0.mk hnum
        clear hnn hnum
        go_upto_region 4 with (go_at_call 24; (with_reducible refine (must_yes _ _).mono ?_); rintro e w1 ⟨rfl, rfl⟩)
        go_upto_region 5 with (fail)
        go_loopw [6] (fun v wr2 => ∃ (j : Nat) (s : Int), v = .int .i64 s ∧ Aside0 (s = 24 - 8 * (j : Int)) ∧ Aside0 (j ≤ 4) ∧ Aside0 (WK wr2 S g (l ++ (xs.take k).flatMap four ++ (four n).take j)) ∧ Aside0 (FS S w wr2)) (fun v _ => (intOf v + 8).toNat)
        case atStart => exact ⟨0, 24, rfl, ⟨rfl⟩, ⟨by omega⟩, ⟨by simpa using HW.out⟩, F⟩
        case round =>
          clear HW F
          obtain ⟨j, s, rfl, E, J, HW2, F2⟩ := hrel
          have HKL := Aside0.mk (show ((xs.take k).flatMap four).length = 4 * k from flat_len (by have := HLT.out; omega))
          rcases (show j = 0 ∨ j = 1 ∨ j = 2 ∨ j = 3 ∨ j = 4 by have := J.out; omega) with rfl | rfl | rfl | rfl | rfl
          · obtain rfl : s = 24 := by have := E.out; omega
            go_upto_region 7 with (fail)
            have HW0 := Aside0.mk HW2.out.drew; have F0 := Aside0.mk F2.out.drew
            refine start_ (n := 8) (S := fun w' => True) (ds := [7]) #[false, false, false, false, false, false, false, false] (by kernel_rfl) rfl rfl trivial (fun hHeld => ?_)
            refine rgp 0 24 ?_
            refine rgp 1 25 ?_
            refine rgp 2 26 ?_
            refine rgp 3 27 ?_
            refine rgp 4 28 ?_
            refine rgp 5 29 ?_
            refine rgp 6 30 ?_
            refine last_ (i := 7) (N := some 31) #[true, true, true, true, true, true, true, true] rfl rfl (by kernel_rfl) (by decide) (fun K hK => ?_)
            refine goes_ Try.func48 (by kernel_rfl) rfl #[.pointer (some ⟨g, 0, none⟩), .int .u8 ((n / 16777216) % 256)] (by rfl) rfl rfl (by (try simp only [List.map_toArray, List.map_cons, List.map_nil]); first | done | rfl) ?_
            rw [← b8_nat]
            refine (writeByte_calls g _ _ S _ (HS.out.next F0.out.size) HW0.out (by simp only [List.length_append, HKL.out, four, List.length_take, List.length_cons, List.length_nil]; have := HL.out; have := HLT.out; omega)).mono ?_
            rintro e v1_ ⟨rfl, hk, hf⟩
            refine ⟨_, rfl, ?_⟩
            have HW3 := Aside0.mk hk; have F3 := Aside0.mk (F0.out.trans hf)
            refine hK _ _ ?_
            clear hK K hk hf
            refine norm_ (a' := ?_) ?_ ?_
            rotate_left
            · show Act.put _ (some 31) _ = _
              simp only [Act.put, List.setIfInBounds_toArray, List.set_cons_zero, List.set_cons_succ, i64_w, i32_w]
              rfl
            refine done_ (by kernel_rfl) ?_
            simp only [Exit.inBlock, Exit.then]
            go_wp2
            go_roundw
            case rel => exact ⟨1, 16, rfl, ⟨by omega⟩, ⟨by omega⟩, ⟨by rw [List.append_assoc] at HW3; exact HW3.out⟩, F3⟩
            case measure => simp only [intOf]; omega
          · obtain rfl : s = 16 := by have := E.out; omega
            go_upto_region 7 with (fail)
            have HW0 := Aside0.mk HW2.out.drew; have F0 := Aside0.mk F2.out.drew
            refine start_ (n := 8) (S := fun w' => True) (ds := [7]) #[false, false, false, false, false, false, false, false] (by kernel_rfl) rfl rfl trivial (fun hHeld => ?_)
            refine rgp 0 24 ?_
            refine rgp 1 25 ?_
            refine rgp 2 26 ?_
            refine rgp 3 27 ?_
            refine rgp 4 28 ?_
            refine rgp 5 29 ?_
            refine rgp 6 30 ?_
            refine last_ (i := 7) (N := some 31) #[true, true, true, true, true, true, true, true] rfl rfl (by kernel_rfl) (by decide) (fun K hK => ?_)
            refine goes_ Try.func48 (by kernel_rfl) rfl #[.pointer (some ⟨g, 0, none⟩), .int .u8 ((n / 65536) % 256)] (by rfl) rfl rfl (by (try simp only [List.map_toArray, List.map_cons, List.map_nil]); first | done | rfl) ?_
            rw [← b8_nat]
            refine (writeByte_calls g _ _ S _ (HS.out.next F0.out.size) HW0.out (by simp only [List.length_append, HKL.out, four, List.length_take, List.length_cons, List.length_nil]; have := HL.out; have := HLT.out; omega)).mono ?_
            rintro e v1_ ⟨rfl, hk, hf⟩
            refine ⟨_, rfl, ?_⟩
            have HW3 := Aside0.mk hk; have F3 := Aside0.mk (F0.out.trans hf)
            refine hK _ _ ?_
            clear hK K hk hf
            refine norm_ (a' := ?_) ?_ ?_
            rotate_left
            · show Act.put _ (some 31) _ = _
              simp only [Act.put, List.setIfInBounds_toArray, List.set_cons_zero, List.set_cons_succ, i64_w, i32_w]
              rfl
            refine done_ (by kernel_rfl) ?_
            simp only [Exit.inBlock, Exit.then]
            go_wp2
            go_roundw
            case rel => exact ⟨2, 8, rfl, ⟨by omega⟩, ⟨by omega⟩, ⟨by rw [List.append_assoc] at HW3; exact HW3.out⟩, F3⟩
            case measure => simp only [intOf]; omega
          · obtain rfl : s = 8 := by have := E.out; omega
            go_upto_region 7 with (fail)
            have HW0 := Aside0.mk HW2.out.drew; have F0 := Aside0.mk F2.out.drew
            refine start_ (n := 8) (S := fun w' => True) (ds := [7]) #[false, false, false, false, false, false, false, false] (by kernel_rfl) rfl rfl trivial (fun hHeld => ?_)
            refine rgp 0 24 ?_
            refine rgp 1 25 ?_
            refine rgp 2 26 ?_
            refine rgp 3 27 ?_
            refine rgp 4 28 ?_
            refine rgp 5 29 ?_
            refine rgp 6 30 ?_
            refine last_ (i := 7) (N := some 31) #[true, true, true, true, true, true, true, true] rfl rfl (by kernel_rfl) (by decide) (fun K hK => ?_)
            refine goes_ Try.func48 (by kernel_rfl) rfl #[.pointer (some ⟨g, 0, none⟩), .int .u8 ((n / 256) % 256)] (by rfl) rfl rfl (by (try simp only [List.map_toArray, List.map_cons, List.map_nil]); first | done | rfl) ?_
            rw [← b8_nat]
            refine (writeByte_calls g _ _ S _ (HS.out.next F0.out.size) HW0.out (by simp only [List.length_append, HKL.out, four, List.length_take, List.length_cons, List.length_nil]; have := HL.out; have := HLT.out; omega)).mono ?_
            rintro e v1_ ⟨rfl, hk, hf⟩
            refine ⟨_, rfl, ?_⟩
            have HW3 := Aside0.mk hk; have F3 := Aside0.mk (F0.out.trans hf)
            refine hK _ _ ?_
            clear hK K hk hf
            refine norm_ (a' := ?_) ?_ ?_
            rotate_left
            · show Act.put _ (some 31) _ = _
              simp only [Act.put, List.setIfInBounds_toArray, List.set_cons_zero, List.set_cons_succ, i64_w, i32_w]
              rfl
            refine done_ (by kernel_rfl) ?_
            simp only [Exit.inBlock, Exit.then]
            go_wp2
            go_roundw
            case rel => exact ⟨3, 0, rfl, ⟨by omega⟩, ⟨by omega⟩, ⟨by rw [List.append_assoc] at HW3; exact HW3.out⟩, F3⟩
            case measure => simp only [intOf]; omega
          · obtain rfl : s = 0 := by have := E.out; omega
            go_upto_region 7 with (fail)
            have HW0 := Aside0.mk HW2.out.drew; have F0 := Aside0.mk F2.out.drew
            refine start_ (n := 8) (S := fun w' => True) (ds := [7]) #[false, false, false, false, false, false, false, false] (by kernel_rfl) rfl rfl trivial (fun hHeld => ?_)
            refine rgp 0 24 ?_
            refine rgp 1 25 ?_
            refine rgp 2 26 ?_
            refine rgp 3 27 ?_
            refine rgp 4 28 ?_
            refine rgp 5 29 ?_
            refine rgp 6 30 ?_
            refine last_ (i := 7) (N := some 31) #[true, true, true, true, true, true, true, true] rfl rfl (by kernel_rfl) (by decide) (fun K hK => ?_)
            refine goes_ Try.func48 (by kernel_rfl) rfl #[.pointer (some ⟨g, 0, none⟩), .int .u8 (n % 256)] (by rfl) rfl rfl (by (try simp only [List.map_toArray, List.map_cons, List.map_nil]); first | done | rfl) ?_
            rw [← b8_nat]
            refine (writeByte_calls g _ _ S _ (HS.out.next F0.out.size) HW0.out (by simp only [List.length_append, HKL.out, four, List.length_take, List.length_cons, List.length_nil]; have := HL.out; have := HLT.out; omega)).mono ?_
            rintro e v1_ ⟨rfl, hk, hf⟩
            refine ⟨_, rfl, ?_⟩
            have HW3 := Aside0.mk hk; have F3 := Aside0.mk (F0.out.trans hf)
            refine hK _ _ ?_
            clear hK K hk hf
            refine norm_ (a' := ?_) ?_ ?_
            rotate_left
            · show Act.put _ (some 31) _ = _
              simp only [Act.put, List.setIfInBounds_toArray, List.set_cons_zero, List.set_cons_succ, i64_w, i32_w]
              rfl
            refine done_ (by kernel_rfl) ?_
            simp only [Exit.inBlock, Exit.then]
            go_wp2
            go_roundw
            case rel => exact ⟨4, -8, rfl, ⟨by omega⟩, ⟨by omega⟩, ⟨by rw [List.append_assoc] at HW3; exact HW3.out⟩, F3⟩
            case measure => simp only [intOf]; omega
          · obtain rfl : s = -8 := by have := E.out; omega
            go_wp2
            (try simp only [hwk])
            refine ⟨⟨k + 1, rfl, ⟨HLT.out⟩, ⟨num_all HA.out HN.out HNU.out⟩, ⟨?_⟩, F2⟩, ?_⟩
            · rw [num_succ HN.out, ← List.append_assoc]
              have h4 := HW2.out
              rwa [show (four n).take 4 = four n from rfl] at h4
            · have := HLT.out
              show xs.length - (intOf (.int .i64 ((k + 1 : Nat) : Int))).toNat < xs.length - (intOf (.int .i64 (k : Int))).toNat
              simp only [intOf]; omega
      · have hnone : numP xs = none := num_none HN.out hnum
        have HNO := Aside0.mk hnone
        have hcase : ¬ 0 ≤ n ∨ (0 ≤ n ∧ ¬ n ≤ 2147483647) := by
          by_cases h0 : 0 ≤ n
          · right; exact ⟨h0, fun h2 => hnum ((isNum_iff n).2 ⟨h0, h2⟩)⟩
          · exact .inl h0
        clear hnone hnum
        rcases hcase with h0 | ⟨h0, h2⟩
        · have t1 : decide (0 ≤ n) = false := decide_eq_false h0
          clear h0
          go_wp2_with (go_at_call 24; (with_reducible refine (must_no _ _).mono ?_); rintro e w1 ⟨rfl, rfl⟩)
          refine ⟨rfl, ?_⟩
          show After S g w l (numP xs) (gaveUp 1) _
          rw [HNO.out]
          exact ⟨rfl, F.out⟩
        · have t1 : decide (0 ≤ n) = true := decide_eq_true h0
          have t2 : decide (n ≤ 2147483647) = false := decide_eq_false h2
          clear h0 h2
          go_wp2_with (go_at_call 24; (with_reducible refine (must_no _ _).mono ?_); rintro e w1 ⟨rfl, rfl⟩)
          refine ⟨rfl, ?_⟩
          show After S g w l (numP xs) (gaveUp 1) _
          rw [HNO.out]
          exact ⟨rfl, F.out⟩
    · obtain rfl : k = xs.length := by have := K.out; omega
      clear hlt
      rw [List.take_length] at HA HW
      go_wp2
      go_end0
      show After S g w l (numP xs) _ _
      rw [num_some HA.out]
      exact ⟨rfl, HW.out, F.out⟩
end Go.Proofs.Ytcfknakmamcinaa.Wr
namespace Go.Proofs.Ytcfknakmamcinaa.Wr
open Go.Proofs.Ytcfknakmamcinaa.Rp Go.Proofs.Ytcfknakmamcinaa.X4
open Go Go.RowKit Go.ChangeMaps Go.Proofs.Ytcfknakmamcinaa.Arr Go.Proofs.Ytcfknakmamcinaa.Ow Go.Proofs.YtcfknakmamcinaaW.PrintWords Go.Proofs.YtcfknakmamcinaaW.PrintLast Go.Proofs.YtcfknakmamcinaaW.PrintMore
set_option linter.unusedVariables false
set_option linter.unusedSimpArgs false
def Less (S : Nat → Prop) (b : Nat) : Nat → Prop := fun k => S k ∧ k ≠ b
theorem top_less {S : Nat → Prop} {w : World} (h : Top S w) (o : Obj) : Top (Less S w.heap.size) (w.alloc o) := fun k hk => by
  have : w.heap.size + 1 ≤ k := by simpa using hk
  exact ⟨h k (by omega), by omega⟩
theorem wk_less {S : Nat → Prop} {w : World} {g : Nat} {l : List UInt8} (h : WK w S g l) (o : Obj) : WK (w.alloc o) (Less S w.heap.size) g l :=
  (h.mono fun k hk e => ⟨e, Nat.ne_of_lt hk⟩).below ((Below.refl _ _).alloc (Nat.le_refl _) o)
theorem WK.more {S : Nat → Prop} {w : World} {g b : Nat} {l : List UInt8} (h : WK w (Less S b) g l) : WK w S g l := h.mono fun k _ e => e.1
theorem FS.more {S : Nat → Prop} {w w' : World} {b : Nat} (h : FS (Less S b) w w') : FS S w w' := FS.mono h fun k _ e => e.1
theorem After.fresh {S : Nat → Prop} {g : Nat} {w w' : World} {l : List UInt8} {o : Option (List UInt8)} {x : Ending} {ob : Obj} (h : After (Less S w.heap.size) g (w.alloc ob) l o x w') : After S g w l o x w' := by
  have hf : ∀ w', FS (Less S w.heap.size) (w.alloc ob) w' → FS S w w' := fun w' h => ((FS.refl S w).alloc ob).trans (FS.more h)
  cases o with
  | none => exact ⟨h.1, hf _ h.2⟩
  | some bs => exact ⟨h.1, h.2.1.more, hf _ h.2.2⟩
theorem not_less (S : Nat → Prop) (b : Nat) : ¬ Less S b b := fun h => h.2 rfl
/-- num of a row that was made for the call. -/
theorem num_fresh (g : Nat) (l : List UInt8) (xs : List Int) (S : Nat → Prop) (w : World) (hS : Top S w) (h : WK w S g l) (hl : l.length + 4 * xs.length ≤ 1000000) : Calls Try.prog 39 #[.pointer (some ⟨g, 0, none⟩), .slice (some ⟨w.heap.size, 0, none⟩) xs.length xs.length] (w.alloc (.cells (xs.map (Value.int .i64)).toArray TI)) fun x w' => After S g w l (numP xs) x w' :=
  (num_calls g l xs w.heap.size xs.length (Less S w.heap.size) (w.alloc (.cells (xs.map (Value.int .i64)).toArray TI)) (top_less hS _) (wk_less h _) (heap_alloc_new w _) (not_less _ _) hl).mono fun x w' hx => hx.fresh
theorem num_fresh1 (g : Nat) (l : List UInt8) (n : Int) (S : Nat → Prop) (w : World) (hS : Top S w) (h : WK w S g l) (hl : l.length + 4 ≤ 1000000) : Calls Try.prog 39 #[.pointer (some ⟨g, 0, none⟩), .slice (some ⟨w.heap.size, 0, none⟩) 1 1] (w.alloc (.cells #[.int .i64 n] TI)) fun x w' => After S g w l (numP [n]) x w' := num_fresh g l [n] S w hS h hl
theorem num_fresh2 (g : Nat) (l : List UInt8) (n m : Int) (S : Nat → Prop) (w : World) (hS : Top S w) (h : WK w S g l) (hl : l.length + 8 ≤ 1000000) : Calls Try.prog 39 #[.pointer (some ⟨g, 0, none⟩), .slice (some ⟨w.heap.size, 0, none⟩) 2 2] (w.alloc (.cells #[.int .i64 n, .int .i64 m] TI)) fun x w' => After S g w l (numP [n, m]) x w' := num_fresh g l [n, m] S w hS h hl
set_option maxHeartbeats 1000000 in
theorem txn_calls (g : Nat) (l : List UInt8) (n : Int) (S : Nat → Prop) (w : World) (hS : Top S w) (h : WK w S g l) (hl : l.length + 4 ≤ 1000000) : Calls Try.prog 38 #[.pointer (some ⟨g, 0, none⟩), .int .i64 n] w fun x w' => After S g w l (txnP n) x w' := by
  have HS := Aside0.mk hS; have HW := Aside0.mk h; have HL := Aside0.mk hl; have F := Aside0.mk (FS.refl S w); clear hS h hl
  by_cases h1 : 1 ≤ n
  · have t1 : decide (1 ≤ n) = true := decide_eq_true h1
    have E := Aside0.mk (show txnP n = numP [n] by unfold txnP; rw [if_pos h1])
    clear h1
    cases hp : numP [n] with
    | none =>
      have HP := Aside0.mk hp; clear hp
      go_enter Try.func38, Try.ntmps38
      go_wp2_with (first | (go_at_call 24; (with_reducible refine (must_yes _ _).mono ?_); rintro e w1 ⟨rfl, hw⟩; replace hw := hw.symm; subst hw) | (go_at_call 39; refine (num_fresh1 g l n S _ HS.out HW.out HL.out).mono ?_; rintro e w1 hx; rw [HP.out] at hx; obtain ⟨rfl, hf⟩ := hx; have F_n := Aside0.mk (F.out.trans hf); clear F; have F := F_n; clear F_n; clear hf))
      refine ⟨rfl, ?_⟩
      show After S g w l (txnP n) (gaveUp 1) _
      rw [E.out, HP.out]
      exact ⟨rfl, F.out⟩
    | some bs =>
      have HP := Aside0.mk hp; clear hp
      go_enter Try.func38, Try.ntmps38
      go_wp2_with (first | (go_at_call 24; (with_reducible refine (must_yes _ _).mono ?_); rintro e w1 ⟨rfl, hw⟩; replace hw := hw.symm; subst hw) | (go_at_call 39; refine (num_fresh1 g l n S _ HS.out HW.out HL.out).mono ?_; rintro e w1 hx; rw [HP.out] at hx; obtain ⟨rfl, hk, hf⟩ := hx; have HW_n := Aside0.mk (hk); have F_n := Aside0.mk (F.out.trans hf); clear HW F; have HW := HW_n; have F := F_n; clear HW_n F_n; clear hk hf))
      go_end0
      show After S g w l (txnP n) _ _
      rw [E.out, HP.out]
      exact ⟨rfl, HW.out, F.out⟩
  · have t1 : decide (1 ≤ n) = false := decide_eq_false h1
    have E := Aside0.mk (show txnP n = none by unfold txnP; rw [if_neg h1])
    clear h1
    go_enter Try.func38, Try.ntmps38
    go_wp2_with (go_at_call 24; (with_reducible refine (must_no _ _).mono ?_); rintro e w1 ⟨rfl, hw⟩; replace hw := hw.symm; subst hw)
    refine ⟨rfl, ?_⟩
    show After S g w l (txnP n) (gaveUp 1) _
    rw [E.out]
    exact ⟨rfl, FS.refl _ _⟩
/-- A record in a block of its own. -/
def RB (w : World) (b : Nat) (r : S25) (A9 : Option Addr) (c9 : Nat) (A10 : Option Addr) (c10 : Nat) : Prop :=
  w.heap[b]? = some (.cells #[.int .i64 r.f0, .int .i64 r.f1, .int .i64 r.f2, .int .i64 r.f3, .int .i64 r.f4, .int .i64 r.f5, .int .i64 r.f6, .string r.f7, .string r.f8, .slice A9 r.f9.length c9, .slice A10 r.f10.length c10] 25 (0, 0))
set_option maxHeartbeats 2000000 in
theorem place_calls (g : Nat) (l : List UInt8) (b : Nat) (r : S25) (A9 : Option Addr) (c9 : Nat) (A10 : Option Addr) (c10 : Nat) (S : Nat → Prop) (w : World) (hS : Top S w) (h : WK w S g l) (hb : RB w b r A9 c9 A10 c10) (hSb : ¬ S b) (hl : l.length + 4 ≤ 1000000) (hz : r.f8.size ≤ 1000000) : Calls Try.prog 40 #[.pointer (some ⟨g, 0, none⟩), .pointer (some ⟨b, 0, none⟩)] w fun x w' => After S g w l (placeP r.f2 r.f3 r.f8.size) x w' := by
  have HS := Aside0.mk hS; have HW := Aside0.mk h; have HL := Aside0.mk hl; have F := Aside0.mk (FS.refl S w); have HB := Aside0.mk hb; have HSB := Aside0.mk hSb
  clear hS h hl hb hSb
  have q8 : w.cell? ⟨b, 8, none⟩ = some (.string r.f8) := blk_cell HB.out 8
  have q2 : w.cell? ⟨b, 2, none⟩ = some (.int .i64 r.f2) := blk_cell HB.out 2
  by_cases h1 : (1 : Int) ≤ (r.f8.size : Int)
  · have t1 : decide ((1 : Int) ≤ (r.f8.size : Int)) = true := decide_eq_true h1
    have t1' : decide (1 ≤ r.f8.size) = true := decide_eq_true (by omega)
    have E := Aside0.mk (show placeP r.f2 r.f3 r.f8.size = cat (smallP r.f2 7) (cat (smallP r.f3 (220 - min (r.f8.size : Int) 220)) (smallP r.f8.size 16)) by unfold placeP; rw [if_pos h1])
    clear h1
    go_enter Try.func40, Try.ntmps40
    cases hp : smallP r.f2 7 with
    | none =>
      have HP := Aside0.mk hp; clear hp
      go_wp2_with (first | (go_at_call 24; (with_reducible refine (must_yes _ _).mono ?_); rintro e w1 ⟨rfl, hw⟩; replace hw := hw.symm; subst hw) | (go_at_call 37; refine (small_calls g l r.f2 7 S _ HS.out HW.out (by have := HL.out; omega)).mono ?_; rintro e w1 hx; rw [HP.out] at hx; obtain ⟨rfl, hf⟩ := hx; have F_n := Aside0.mk (F.out.trans hf); clear F; have F := F_n; clear F_n; clear hf))
      refine ⟨rfl, ?_⟩
      show After S g w l (placeP r.f2 r.f3 r.f8.size) (gaveUp 1) _
      rw [E.out, HP.out]
      exact ⟨rfl, F.out⟩
    | some b1 =>
    have HP := Aside0.mk hp; have HB1 := Aside0.mk (small_len hp); clear hp
    go_upto_region 3 with (first | (go_at_call 24; (with_reducible refine (must_yes _ _).mono ?_); rintro e w1 ⟨rfl, hw⟩; replace hw := hw.symm; subst hw) | (go_at_call 37; refine (small_calls g l r.f2 7 S _ HS.out HW.out (by have := HL.out; omega)).mono ?_; rintro e w2 hx; rw [HP.out] at hx; obtain ⟨rfl, hk, hf⟩ := hx; have HW_n := Aside0.mk (hk); have F_n := Aside0.mk (F.out.trans hf); clear HW F; have HW := HW_n; have F := F_n; clear HW_n F_n; clear hk hf))
    have q3 : w2.cell? ⟨b, 3, none⟩ = some (.int .i64 r.f3) := blk_cell (F.out.old HB.out HSB.out) 3
    have hw : wrap64 (220 - min (r.f8.size : Int) 220) = 220 - min (r.f8.size : Int) 220 := by unfold wrap64; omega
    cases hp2 : smallP r.f3 (220 - min (r.f8.size : Int) 220) with
    | none =>
      have HP2 := Aside0.mk hp2; clear hp2
      go_wp2_with (go_at_call 37; refine (small_calls g (l ++ b1) r.f3 (220 - min (r.f8.size : Int) 220) S _ (HS.out.next F.out.size) HW.out (by rw [List.length_append, HB1.out]; have := HL.out; omega)).mono ?_; rintro e w1 hx; rw [HP2.out] at hx; obtain ⟨rfl, hf⟩ := hx; have F_n := Aside0.mk (F.out.trans hf); clear F; have F := F_n; clear F_n; clear hf)
      refine ⟨rfl, ?_⟩
      show After S g w l (placeP r.f2 r.f3 r.f8.size) (gaveUp 1) _
      rw [E.out, HP.out, HP2.out]
      exact ⟨rfl, F.out⟩
    | some b2 =>
    have HP2 := Aside0.mk hp2; have HB2 := Aside0.mk (small_len hp2); clear hp2
    go_upto_region 4 with (go_at_call 37; refine (small_calls g (l ++ b1) r.f3 (220 - min (r.f8.size : Int) 220) S _ (HS.out.next F.out.size) HW.out (by rw [List.length_append, HB1.out]; have := HL.out; omega)).mono ?_; rintro e w3 hx; rw [HP2.out] at hx; obtain ⟨rfl, hk, hf⟩ := hx; have HW_n := Aside0.mk (hk); have F_n := Aside0.mk (F.out.trans hf); clear HW F; have HW := HW_n; have F := F_n; clear HW_n F_n; clear hk hf)
    cases hp3 : smallP r.f8.size 16 with
    | none =>
      have HP3 := Aside0.mk hp3; clear hp3
      go_wp2_with (go_at_call 37; refine (small_calls g (l ++ b1 ++ b2) r.f8.size 16 S _ (HS.out.next F.out.size) HW.out (by rw [List.length_append, List.length_append, HB1.out, HB2.out]; have := HL.out; omega)).mono ?_; rintro e w1 hx; rw [HP3.out] at hx; obtain ⟨rfl, hf⟩ := hx; have F_n := Aside0.mk (F.out.trans hf); clear F; have F := F_n; clear F_n; clear hf)
      refine ⟨rfl, ?_⟩
      show After S g w l (placeP r.f2 r.f3 r.f8.size) (gaveUp 1) _
      rw [E.out, HP.out, HP2.out, HP3.out]
      exact ⟨rfl, F.out⟩
    | some b3 =>
    have HP3 := Aside0.mk hp3; clear hp3
    go_wp2_with (go_at_call 37; refine (small_calls g (l ++ b1 ++ b2) r.f8.size 16 S _ (HS.out.next F.out.size) HW.out (by rw [List.length_append, List.length_append, HB1.out, HB2.out]; have := HL.out; omega)).mono ?_; rintro e w4 hx; rw [HP3.out] at hx; obtain ⟨rfl, hk, hf⟩ := hx; have HW_n := Aside0.mk (hk); have F_n := Aside0.mk (F.out.trans hf); clear HW F; have HW := HW_n; have F := F_n; clear HW_n F_n; clear hk hf)
    go_end0
    show After S g w l (placeP r.f2 r.f3 r.f8.size) _ _
    rw [E.out, HP.out, HP2.out, HP3.out]
    exact ⟨rfl, by simpa [List.append_assoc] using HW.out, F.out⟩
  · have t1 : decide ((1 : Int) ≤ (r.f8.size : Int)) = false := decide_eq_false h1
    have t1' : decide (1 ≤ r.f8.size) = false := decide_eq_false (by omega)
    have E := Aside0.mk (show placeP r.f2 r.f3 r.f8.size = none by unfold placeP; rw [if_neg h1])
    clear h1
    go_enter Try.func40, Try.ntmps40
    go_wp2_with (go_at_call 24; (with_reducible refine (must_no _ _).mono ?_); rintro e w1 ⟨rfl, hw⟩; replace hw := hw.symm; subst hw)
    refine ⟨rfl, ?_⟩
    show After S g w l (placeP r.f2 r.f3 r.f8.size) (gaveUp 1) _
    rw [E.out]
    exact ⟨rfl, FS.refl _ _⟩
end Go.Proofs.Ytcfknakmamcinaa.Wr
namespace Go.Proofs.Ytcfknakmamcinaa.Wr
open Go.Proofs.Ytcfknakmamcinaa.Rp Go.Proofs.Ytcfknakmamcinaa.X4
open Go Go.RowKit Go.ChangeMaps Go.Proofs.Ytcfknakmamcinaa.Arr Go.Proofs.Ytcfknakmamcinaa.Ow Go.Proofs.YtcfknakmamcinaaW.PrintWords Go.Proofs.YtcfknakmamcinaaW.PrintLast Go.Proofs.YtcfknakmamcinaaW.PrintMore
set_option linter.unusedVariables false
set_option linter.unusedSimpArgs false
set_option maxHeartbeats 4000000 in
theorem tables_calls (g : Nat) (l : List UInt8) (b : Nat) (r : S25) (A9 : Option Addr) (c9 : Nat) (A10 : Option Addr) (c10 : Nat) (S : Nat → Prop) (w : World) (hS : Top S w) (h : WK w S g l) (hb : RB w b r A9 c9 A10 c10) (hSb : ¬ S b) (h9 : ∀ w', FS S w w' → Kd.C k66 w' A9 r.f9.length r.f9) (h10 : ∀ w', FS S w w' → Kd.C k68 w' A10 r.f10.length r.f10) (hl : l.length ≤ 900000) : Calls Try.prog 42 #[.pointer (some ⟨g, 0, none⟩), .pointer (some ⟨b, 0, none⟩)] w fun x w' => After S g w l (tablesP r) x w' := by
  have HS := Aside0.mk hS; have HW := Aside0.mk h; have HL := Aside0.mk hl; have F := Aside0.mk (FS.refl S w); have HB := Aside0.mk hb; have HSB := Aside0.mk hSb; have H9 := Aside0.mk h9; have H10 := Aside0.mk h10
  clear hS h hl hb hSb h9 h10
  have q6 : w.cell? ⟨b, 6, none⟩ = some (.int .i64 r.f6) := blk_cell HB.out 6
  cases hp1 : numP [r.f6] with
  | none =>
    have HP1 := Aside0.mk hp1; clear hp1
    go_enter Try.func42, Try.ntmps42
    go_wp2_with (go_at_call 39; refine (num_fresh1 g l r.f6 S _ HS.out HW.out (by have := HL.out; omega)).mono ?_; rintro e w1 hx; rw [HP1.out] at hx; obtain ⟨rfl, hf⟩ := hx; have F_n := Aside0.mk (F.out.trans hf); clear F; have F := F_n; clear F_n; clear hf)
    refine ⟨rfl, ?_⟩; show After S g w l (tablesP r) (gaveUp 1) _; rw [show tablesP r = none by unfold tablesP; rw [HP1.out]; rfl]; exact ⟨rfl, F.out⟩
  | some b1 =>
    have HP1 := Aside0.mk hp1; have HB1 := Aside0.mk (show b1.length = 4 from num_len hp1); clear hp1
    go_enter Try.func42, Try.ntmps42
    go_upto_region 1 with (go_at_call 39; refine (num_fresh1 g l r.f6 S _ HS.out HW.out (by have := HL.out; omega)).mono ?_; rintro e w1 hx; rw [HP1.out] at hx; obtain ⟨rfl, hk, hf⟩ := hx; have HW_n := Aside0.mk (hk); have F_n := Aside0.mk (F.out.trans hf); clear HW F; have HW := HW_n; have F := F_n; clear HW_n F_n; clear hk hf)
    have q9 : w1.cell? ⟨b, 9, none⟩ = some (.slice A9 r.f9.length c9) := blk_cell (F.out.old HB.out HSB.out) 9
    cases hp2 : smallP r.f9.length 4 with
    | none =>
      have HP2 := Aside0.mk hp2; clear hp2
      go_wp2_with (go_at_call 37; refine (small_calls g (l ++ b1) r.f9.length 4 S _ (HS.out.next F.out.size) HW.out (by rw [List.length_append, HB1.out]; have := HL.out; omega)).mono ?_; rintro e w1 hx; rw [HP2.out] at hx; obtain ⟨rfl, hf⟩ := hx; have F_n := Aside0.mk (F.out.trans hf); clear F; have F := F_n; clear F_n; clear hf)
      refine ⟨rfl, ?_⟩; show After S g w l (tablesP r) (gaveUp 1) _; rw [show tablesP r = none by unfold tablesP; rw [HP1.out, HP2.out]; rfl]; exact ⟨rfl, F.out⟩
    | some b2 =>
    have HP2 := Aside0.mk hp2; have HB2 := Aside0.mk (small_len hp2); have HC4 := Aside0.mk (show r.f9.length ≤ 4 by have := small_le hp2; omega); clear hp2
    go_upto_region 2 with (go_at_call 37; refine (small_calls g (l ++ b1) r.f9.length 4 S _ (HS.out.next F.out.size) HW.out (by rw [List.length_append, HB1.out]; have := HL.out; omega)).mono ?_; rintro e w2 hx; rw [HP2.out] at hx; obtain ⟨rfl, hk, hf⟩ := hx; have HW_n := Aside0.mk (hk); have F_n := Aside0.mk (F.out.trans hf); clear HW F; have HW := HW_n; have F := F_n; clear HW_n F_n; clear hk hf)
    have q9b : w2.cell? ⟨b, 9, none⟩ = some (.slice A9 r.f9.length c9) := blk_cell (F.out.old HB.out HSB.out) 9
    go_upto_region 3 with (fail)
    go_loopw [27] (fun v wr => ∃ (k : Nat) (L : List UInt8), v = .int .i64 k ∧ Aside0 (k ≤ r.f9.length) ∧ Aside0 (∃ bs, joinP ((r.f9.take k).map rowT) = some bs ∧ L = (l ++ b1 ++ b2) ++ bs) ∧ Aside0 (L.length ≤ l.length + 5 + 12 * k) ∧ Aside0 (WK wr S g L) ∧ Aside0 (FS S w wr)) (fun v _ => r.f9.length - (intOf v).toNat)
    case atStart => exact ⟨0, _, rfl, ⟨Nat.zero_le _⟩, ⟨[], rfl, rfl⟩, ⟨by rw [List.append_nil, List.length_append, List.length_append, HB1.out, HB2.out]; omega⟩, ⟨by simpa using HW.out⟩, F⟩
    case round =>
      clear HW F q9 q9b
      obtain ⟨k, L, rfl, K, HJ, HLN, HW, F⟩ := hrel
      by_cases hlt : k < r.f9.length
      · have h1 : (k : Int) < (r.f9.length : Int) := by omega
        have h2 : (0 : Int) ≤ (k : Int) := by omega
        have hwk : wrap64 ((k : Int) + 1) = ((k + 1 : Nat) : Int) := by have := HC4.out; unfold wrap64; omega
        obtain ⟨ad, e_, x0, x1, x2⟩ := at_T66 (H9.out wr F.out) k h2 h1
        have HX := Aside0.mk (show r.f9[k]? = some (rd_T66 r.f9 k) by unfold rd_T66; rw [Int.toNat_natCast, List.getD_eq_getElem?_getD, List.getElem?_eq_getElem hlt]; rfl)
        simp only [Int.toNat_natCast] at x0 x1 x2
        subst e_
        generalize rd_T66 r.f9 k = x at *
        have HLT := Aside0.mk hlt
        have HS1 := Aside0.mk (top_less (HS.out.next F.out.size) (.cells #[.int .i64 x.f0, .int .i64 x.f1, .int .i64 x.f2] 66))
        have HW1 := Aside0.mk (wk_less HW.out (.cells #[.int .i64 x.f0, .int .i64 x.f1, .int .i64 x.f2] 66))
        have HB1 := Aside0.mk (heap_alloc_new wr (.cells #[.int .i64 x.f0, .int .i64 x.f1, .int .i64 x.f2] 66))
        have F0 := Aside0.mk (F.out.alloc (.cells #[.int .i64 x.f0, .int .i64 x.f1, .int .i64 x.f2] 66))
        have F1 := Aside0.mk (FS.refl (Less S wr.heap.size) (wr.alloc (.cells #[.int .i64 x.f0, .int .i64 x.f1, .int .i64 x.f2] 66)))
        clear hlt
        cases hp3 : txnP x.f0 with
        | none =>
          as_aux_lemma =>
          have HP3 := Aside0.mk hp3; clear hp3
          go_wp2_with (go_at_call 38; refine (txn_calls g L x.f0 (Less S wr.heap.size) _ HS1.out HW1.out (by have := HLN.out; have := HLT.out; have := HC4.out; have := HL.out; omega)).mono ?_; rintro e w1 hx; rw [HP3.out] at hx; obtain ⟨rfl, hf⟩ := hx; have F1_n := Aside0.mk (F1.out.trans hf); clear F1; have F1 := F1_n; clear F1_n; clear hf)
          refine ⟨rfl, ?_⟩
          show After S g w l (tablesP r) (gaveUp 1) _
          rw [show tablesP r = none by unfold tablesP; rw [HP1.out, HP2.out, join_none HX.out (by unfold rowT; rw [HP3.out]; rfl)]; rfl]
          exact ⟨rfl, F0.out.trans (FS.more F1.out)⟩
        | some b3 =>
        have HP3 := Aside0.mk hp3; have HB3 := Aside0.mk (txn_len hp3); clear hp3
        go_upto_region 6 with (go_at_call 38; refine (txn_calls g L x.f0 (Less S wr.heap.size) _ HS1.out HW1.out (by have := HLN.out; have := HLT.out; have := HC4.out; have := HL.out; omega)).mono ?_; rintro e w4 hx; rw [HP3.out] at hx; obtain ⟨rfl, hk, hf⟩ := hx; have HW1_n := Aside0.mk (hk); have F1_n := Aside0.mk (F1.out.trans hf); clear HW1 F1; have HW1 := HW1_n; have F1 := F1_n; clear HW1_n F1_n; clear hk hf)
        have y1 : w4.cell? ⟨wr.heap.size, 1, none⟩ = some (.int .i64 x.f1) := blk_cell (F1.out.old HB1.out (not_less _ _)) 1
        have y2 : w4.cell? ⟨wr.heap.size, 2, none⟩ = some (.int .i64 x.f2) := blk_cell (F1.out.old HB1.out (not_less _ _)) 2
        cases hp4 : numP [x.f1, x.f2] with
        | none =>
          as_aux_lemma =>
          have HP4 := Aside0.mk hp4; clear hp4
          go_wp2_with (go_at_call 39; refine (num_fresh2 g (L ++ b3) x.f1 x.f2 (Less S wr.heap.size) _ (HS1.out.next F1.out.size) HW1.out (by rw [List.length_append, HB3.out]; have := HLN.out; have := HLT.out; have := HC4.out; have := HL.out; omega)).mono ?_; rintro e w1 hx; rw [HP4.out] at hx; obtain ⟨rfl, hf⟩ := hx; have F1_n := Aside0.mk (F1.out.trans hf); clear F1; have F1 := F1_n; clear F1_n; clear hf)
          refine ⟨rfl, ?_⟩
          show After S g w l (tablesP r) (gaveUp 1) _
          rw [show tablesP r = none by unfold tablesP; rw [HP1.out, HP2.out, join_none HX.out (by unfold rowT; rw [HP3.out, HP4.out]; rfl)]; rfl]
          exact ⟨rfl, F0.out.trans (FS.more F1.out)⟩
        | some b4 =>
        as_aux_lemma =>
        have HP4 := Aside0.mk hp4; have HB4 := Aside0.mk (num_len hp4); clear hp4
        go_wp2_with (go_at_call 39; refine (num_fresh2 g (L ++ b3) x.f1 x.f2 (Less S wr.heap.size) _ (HS1.out.next F1.out.size) HW1.out (by rw [List.length_append, HB3.out]; have := HLN.out; have := HLT.out; have := HC4.out; have := HL.out; omega)).mono ?_; rintro e w5 hx; rw [HP4.out] at hx; obtain ⟨rfl, hk, hf⟩ := hx; have HW1_n := Aside0.mk (hk); have F1_n := Aside0.mk (F1.out.trans hf); clear HW1 F1; have HW1 := HW1_n; have F1 := F1_n; clear HW1_n F1_n; clear hk hf)
        have FF := Aside0.mk (F0.out.trans (FS.more F1.out)); have WW := Aside0.mk (HW1.out.more); clear F0 F1 HW1
        (try simp only [hwk])
        obtain ⟨bs, hj, hL⟩ := HJ.out
        refine ⟨⟨k + 1, L ++ b3 ++ b4, rfl, ⟨HLT.out⟩, ⟨bs ++ (b3 ++ b4), join_succ HX.out hj (by unfold rowT; rw [HP3.out, HP4.out]; rfl), by rw [hL]; simp only [List.append_assoc]⟩, ⟨?_⟩, WW, FF⟩, ?_⟩
        · have := HLN.out; have h5 := HB4.out; rw [List.length_append, List.length_append, HB3.out, h5]; simp only [List.length_cons, List.length_nil]; omega
        · have := HLT.out
          show r.f9.length - (intOf (.int .i64 ((k + 1 : Nat) : Int))).toNat < r.f9.length - (intOf (.int .i64 (k : Int))).toNat
          simp only [intOf]; omega
      · obtain rfl : k = r.f9.length := by have := K.out; omega
        clear hlt
        obtain ⟨bs, hj, hL⟩ := HJ.out
        rw [List.take_length] at hj
        have HJ1 := Aside0.mk hj; have HL1 := Aside0.mk hL; clear hj hL HJ
        obtain ⟨L2, HL2⟩ : ∃ L2, Aside0 (L2 = L) := ⟨_, ⟨rfl⟩⟩
        obtain rfl := HL2.out
        clear HL2
        have q10 : wr.cell? ⟨b, 10, none⟩ = some (.slice A10 r.f10.length c10) := blk_cell (F.out.old HB.out HSB.out) 10
        go_upto_region 8 with (fail)
        cases hp5 : smallP r.f10.length 8 with
        | none =>
          as_aux_lemma =>
          have HP5 := Aside0.mk hp5; clear hp5
          go_wp2_with (go_at_call 37; refine (small_calls g L2 r.f10.length 8 S _ (HS.out.next F.out.size) HW.out (by have := HLN.out; have := HC4.out; have := HL.out; omega)).mono ?_; rintro e w1 hx; rw [HP5.out] at hx; obtain ⟨rfl, hf⟩ := hx; have F_n := Aside0.mk (F.out.trans hf); clear F; have F := F_n; clear F_n; clear hf)
          refine ⟨rfl, ?_⟩; show After S g w l (tablesP r) (gaveUp 1) _; rw [show tablesP r = none by unfold tablesP; rw [HP1.out, HP2.out, HJ1.out, HP5.out]; rfl]; exact ⟨rfl, F.out⟩
        | some b5 =>
        have HP5 := Aside0.mk hp5; have HB5 := Aside0.mk (small_len hp5); have HC8 := Aside0.mk (show r.f10.length ≤ 8 by have := small_le hp5; omega); clear hp5
        go_upto_region 9 with (go_at_call 37; refine (small_calls g L2 r.f10.length 8 S _ (HS.out.next F.out.size) HW.out (by have := HLN.out; have := HC4.out; have := HL.out; omega)).mono ?_; rintro e w3 hx; rw [HP5.out] at hx; obtain ⟨rfl, hk, hf⟩ := hx; have HW_n := Aside0.mk (hk); have F_n := Aside0.mk (F.out.trans hf); clear HW F; have HW := HW_n; have F := F_n; clear HW_n F_n; clear hk hf)
        have q10b : w3.cell? ⟨b, 10, none⟩ = some (.slice A10 r.f10.length c10) := blk_cell (F.out.old HB.out HSB.out) 10
        have HLN0 := HLN; clear HLN
        go_upto_region 10 with (fail)
        go_loopw [55] (fun v wr => ∃ (k : Nat) (L : List UInt8), v = .int .i64 k ∧ Aside0 (k ≤ r.f10.length) ∧ Aside0 (∃ bs, joinP ((r.f10.take k).map rowQ) = some bs ∧ L = (L2 ++ b5) ++ bs) ∧ Aside0 (L.length ≤ l.length + 54 + 5 * k) ∧ Aside0 (WK wr S g L) ∧ Aside0 (FS S w wr)) (fun v _ => r.f10.length - (intOf v).toNat)
        case atStart => exact ⟨0, _, rfl, ⟨Nat.zero_le _⟩, ⟨[], rfl, rfl⟩, ⟨by rw [List.append_nil, List.length_append, HB5.out]; have := HLN0.out; have := HC4.out; omega⟩, ⟨by simpa using HW.out⟩, F⟩
        case round =>
          clear HW F q10 q10b
          obtain ⟨k, L, rfl, K, HJ, HLN, HW, F⟩ := hrel
          by_cases hlt : k < r.f10.length
          · have h1 : (k : Int) < (r.f10.length : Int) := by omega
            have h2 : (0 : Int) ≤ (k : Int) := by omega
            have hwk : wrap64 ((k : Int) + 1) = ((k + 1 : Nat) : Int) := by have := HC8.out; unfold wrap64; omega
            obtain ⟨ad, e_, x0, x1⟩ := at_T68 (H10.out wr F.out) k h2 h1
            have HX := Aside0.mk (show r.f10[k]? = some (rd_T68 r.f10 k) by unfold rd_T68; rw [Int.toNat_natCast, List.getD_eq_getElem?_getD, List.getElem?_eq_getElem hlt]; rfl)
            simp only [Int.toNat_natCast] at x0 x1
            subst e_
            generalize rd_T68 r.f10 k = x at *
            have HLT := Aside0.mk hlt
            have HS1 := Aside0.mk (top_less (HS.out.next F.out.size) (.cells #[.int .i64 x.f0, .int .i64 x.f1] 68))
            have HW1 := Aside0.mk (wk_less HW.out (.cells #[.int .i64 x.f0, .int .i64 x.f1] 68))
            have HB1 := Aside0.mk (heap_alloc_new wr (.cells #[.int .i64 x.f0, .int .i64 x.f1] 68))
            have F0 := Aside0.mk (F.out.alloc (.cells #[.int .i64 x.f0, .int .i64 x.f1] 68))
            have F1 := Aside0.mk (FS.refl (Less S wr.heap.size) (wr.alloc (.cells #[.int .i64 x.f0, .int .i64 x.f1] 68)))
            clear hlt
            cases hp3 : smallP x.f0 7 with
            | none =>
              as_aux_lemma =>
              have HP3 := Aside0.mk hp3; clear hp3
              go_wp2_with (go_at_call 37; refine (small_calls g L x.f0 7 (Less S wr.heap.size) _ HS1.out HW1.out (by have := HLN.out; have := HLT.out; have := HC8.out; have := HL.out; omega)).mono ?_; rintro e w1 hx; rw [HP3.out] at hx; obtain ⟨rfl, hf⟩ := hx; have F1_n := Aside0.mk (F1.out.trans hf); clear F1; have F1 := F1_n; clear F1_n; clear hf)
              refine ⟨rfl, ?_⟩
              show After S g w l (tablesP r) (gaveUp 1) _
              rw [show tablesP r = none by unfold tablesP; rw [HP1.out, HP2.out, HJ1.out, HP5.out, join_none HX.out (by unfold rowQ; rw [HP3.out]; rfl)]; rfl]
              exact ⟨rfl, F0.out.trans (FS.more F1.out)⟩
            | some b3 =>
            have HP3 := Aside0.mk hp3; have HB3 := Aside0.mk (small_len hp3); clear hp3
            go_upto_region 13 with (go_at_call 37; refine (small_calls g L x.f0 7 (Less S wr.heap.size) _ HS1.out HW1.out (by have := HLN.out; have := HLT.out; have := HC8.out; have := HL.out; omega)).mono ?_; rintro e w4 hx; rw [HP3.out] at hx; obtain ⟨rfl, hk, hf⟩ := hx; have HW1_n := Aside0.mk (hk); have F1_n := Aside0.mk (F1.out.trans hf); clear HW1 F1; have HW1 := HW1_n; have F1 := F1_n; clear HW1_n F1_n; clear hk hf)
            have y1 : w4.cell? ⟨wr.heap.size, 1, none⟩ = some (.int .i64 x.f1) := blk_cell (F1.out.old HB1.out (not_less _ _)) 1
            skip
            cases hp4 : numP [x.f1] with
            | none =>
              as_aux_lemma =>
              have HP4 := Aside0.mk hp4; clear hp4
              go_wp2_with (go_at_call 39; refine (num_fresh1 g (L ++ b3) x.f1 (Less S wr.heap.size) _ (HS1.out.next F1.out.size) HW1.out (by rw [List.length_append, HB3.out]; have := HLN.out; have := HLT.out; have := HC8.out; have := HL.out; omega)).mono ?_; rintro e w1 hx; rw [HP4.out] at hx; obtain ⟨rfl, hf⟩ := hx; have F1_n := Aside0.mk (F1.out.trans hf); clear F1; have F1 := F1_n; clear F1_n; clear hf)
              refine ⟨rfl, ?_⟩
              show After S g w l (tablesP r) (gaveUp 1) _
              rw [show tablesP r = none by unfold tablesP; rw [HP1.out, HP2.out, HJ1.out, HP5.out, join_none HX.out (by unfold rowQ; rw [HP3.out, HP4.out]; rfl)]; rfl]
              exact ⟨rfl, F0.out.trans (FS.more F1.out)⟩
            | some b4 =>
            as_aux_lemma =>
            have HP4 := Aside0.mk hp4; have HB4 := Aside0.mk (num_len hp4); clear hp4
            go_wp2_with (go_at_call 39; refine (num_fresh1 g (L ++ b3) x.f1 (Less S wr.heap.size) _ (HS1.out.next F1.out.size) HW1.out (by rw [List.length_append, HB3.out]; have := HLN.out; have := HLT.out; have := HC8.out; have := HL.out; omega)).mono ?_; rintro e w5 hx; rw [HP4.out] at hx; obtain ⟨rfl, hk, hf⟩ := hx; have HW1_n := Aside0.mk (hk); have F1_n := Aside0.mk (F1.out.trans hf); clear HW1 F1; have HW1 := HW1_n; have F1 := F1_n; clear HW1_n F1_n; clear hk hf)
            have FF := Aside0.mk (F0.out.trans (FS.more F1.out)); have WW := Aside0.mk (HW1.out.more); clear F0 F1 HW1
            (try simp only [hwk])
            obtain ⟨bs, hj, hL⟩ := HJ.out
            refine ⟨⟨k + 1, L ++ b3 ++ b4, rfl, ⟨HLT.out⟩, ⟨bs ++ (b3 ++ b4), join_succ HX.out hj (by unfold rowQ; rw [HP3.out, HP4.out]; rfl), by rw [hL]; simp only [List.append_assoc]⟩, ⟨?_⟩, WW, FF⟩, ?_⟩
            · have := HLN.out; have h5 := HB4.out; rw [List.length_append, List.length_append, HB3.out, h5]; simp only [List.length_cons, List.length_nil]; omega
            · have := HLT.out
              show r.f10.length - (intOf (.int .i64 ((k + 1 : Nat) : Int))).toNat < r.f10.length - (intOf (.int .i64 (k : Int))).toNat
              simp only [intOf]; omega
          · obtain rfl : k = r.f10.length := by have := K.out; omega
            clear hlt
            obtain ⟨bs2, hj2, hL2⟩ := HJ.out
            rw [List.take_length] at hj2
            go_wp2
            go_end0
            show After S g w l (tablesP r) _ _
            rw [show tablesP r = some (b1 ++ (b2 ++ (bs ++ (b5 ++ bs2)))) by unfold tablesP; rw [HP1.out, HP2.out, HJ1.out, HP5.out, hj2]; rfl]
            exact ⟨rfl, by have h := HW.out; rw [hL2, HL1.out] at h; simpa only [List.append_assoc] using h, F.out⟩
end Go.Proofs.Ytcfknakmamcinaa.Wr
-- Written by this session's xprint.py (the kit's print, with contracts proved by hand).
namespace Go.Proofs.Ytcfknakmamcinaa.X4
open Go.RowKit Go.Proofs.YtcfknakmamcinaaW.PrintWords Go.Proofs.YtcfknakmamcinaaW.PrintLast Go.Proofs.YtcfknakmamcinaaW.PrintMore
attribute [local go_sem] max2_int min2_int max_two min_two max_three min_three max_four min_four   -- for this text's walks alone
set_option linter.unusedVariables false
set_option linter.unusedSimpArgs false
theorem eqA66 (d : Nat) (w : World) (x0 y0 : Int) (x1 y1 : Int) (x2 y2 : Int) :
    (Op.equalIn (d + 2) 66 (.agg #[.int .i64 x0, .int .i64 x1, .int .i64 x2]) (.agg #[.int .i64 y0, .int .i64 y1, .int .i64 y2])).run Try.prog w = .ok (x0 == y0 && (x1 == y1 && (x2 == y2))) w := by
  refine eqA_of Try.underlying66 (by kernel_rfl) ?_
  refine eqf_cons (by rfl) (by go_simp; rfl) (by go_simp; rfl) (by go_simp) ?_
  refine eqf_cons (by rfl) (by go_simp; rfl) (by go_simp; rfl) (by go_simp) ?_
  exact eqf_last (by rfl) (by go_simp; rfl) (by go_simp; rfl) (by go_simp)
end Go.Proofs.Ytcfknakmamcinaa.X4
-- Written by this session's xprint.py (the kit's print, with contracts proved by hand).
namespace Go.Proofs.Ytcfknakmamcinaa.X4
open Go.RowKit Go.Proofs.YtcfknakmamcinaaW.PrintWords Go.Proofs.YtcfknakmamcinaaW.PrintLast Go.Proofs.YtcfknakmamcinaaW.PrintMore
attribute [local go_sem] max2_int min2_int max_two min_two max_three min_three max_four min_four   -- for this text's walks alone
set_option linter.unusedVariables false
set_option linter.unusedSimpArgs false
theorem eqA68 (d : Nat) (w : World) (x0 y0 : Int) (x1 y1 : Int) :
    (Op.equalIn (d + 2) 68 (.agg #[.int .i64 x0, .int .i64 x1]) (.agg #[.int .i64 y0, .int .i64 y1])).run Try.prog w = .ok (x0 == y0 && (x1 == y1)) w := by
  refine eqA_of Try.underlying68 (by kernel_rfl) ?_
  refine eqf_cons (by rfl) (by go_simp; rfl) (by go_simp; rfl) (by go_simp) ?_
  exact eqf_last (by rfl) (by go_simp; rfl) (by go_simp; rfl) (by go_simp)
end Go.Proofs.Ytcfknakmamcinaa.X4
namespace Go.Proofs.Ytcfknakmamcinaa.Sa
open Go Go.RowKit Go.ChangeMaps Go.Proofs.Ytcfknakmamcinaa.Rp Go.Proofs.Ytcfknakmamcinaa.X4 Go.Proofs.YtcfknakmamcinaaW.PrintWords Go.Proofs.YtcfknakmamcinaaW.PrintLast Go.Proofs.YtcfknakmamcinaaW.PrintMore
set_option linter.unusedVariables false
set_option linter.unusedSimpArgs false
attribute [local go_sem high] eqA66 eqA68
theorem neT_iff (x y : S66) : (!(x.f0 == y.f0) || (!(x.f1 == y.f1) || (!(x.f2 == y.f2)))) = false ↔ x = y := by
  obtain ⟨a, b, c⟩ := x
  obtain ⟨d, e, f⟩ := y
  simp only [S66.mk.injEq]
  by_cases h1 : a = d <;> by_cases h2 : b = e <;> simp [h1, h2]
theorem take_neT {X Y : List S66} {k : Nat} {x y : S66} (hx : X[k]? = some x) (hy : Y[k]? = some y) (hn : x ≠ y) : X ≠ Y := fun e => by
  subst e
  rw [hx] at hy
  exact hn (Option.some.inj hy)
theorem take_eqT {X Y : List S66} {k : Nat} {x : S66} (h : X.take k = Y.take k) (hx : X[k]? = some x) (hy : Y[k]? = some x) : X.take (k + 1) = Y.take (k + 1) := by
  rw [List.take_add_one, List.take_add_one, h, hx, hy]
theorem neQ_iff (x y : S68) : (!(x.f0 == y.f0) || (!(x.f1 == y.f1))) = false ↔ x = y := by
  obtain ⟨a, b⟩ := x
  obtain ⟨d, e⟩ := y
  simp only [S68.mk.injEq]
  by_cases h1 : a = d <;> by_cases h2 : b = e <;> simp [h1, h2]
theorem take_neQ {X Y : List S68} {k : Nat} {x y : S68} (hx : X[k]? = some x) (hy : Y[k]? = some y) (hn : x ≠ y) : X ≠ Y := fun e => by
  subst e
  rw [hx] at hy
  exact hn (Option.some.inj hy)
theorem take_eqQ {X Y : List S68} {k : Nat} {x : S68} (h : X.take k = Y.take k) (hx : X[k]? = some x) (hy : Y[k]? = some x) : X.take (k + 1) = Y.take (k + 1) := by
  rw [List.take_add_one, List.take_add_one, h, hx, hy]
set_option maxHeartbeats 1000000 in
theorem eqT_calls (X Y : List S66) (A : Option Addr) (c : Nat) (B : Option Addr) (d : Nat) (w : World) (hx : Kd.C k66 w A X.length X) (hy : Kd.C k66 w B Y.length Y) (hl : X.length ≤ 1000000) : Calls Try.prog 32 #[.slice A X.length c, .slice B Y.length d] w fun e w' => e = .returned (.bool (decide (X = Y))) ∧ Below w.heap.size w w' := by
  have hu := Try.underlying66
  have HCX := Aside0.mk hx; have HCY := Aside0.mk hy; have HL := Aside0.mk hl
  clear hx hy hl
  by_cases hle : X.length = Y.length
  rotate_left
  · have e1 : ((X.length : Int) != (Y.length : Int)) = true := by rw [bne_iff_ne]; omega
    have e2 : (X.length == Y.length) = false := by rw [beq_eq_false_iff_ne]; exact hle
    have HN := Aside0.mk (show decide (X = Y) = false from decide_eq_false fun e => hle (by rw [e]))
    clear hle
    go_enter Try.func32, Try.ntmps32
    go_wp2
    go_ret
    exact ⟨by rw [HN.out]; rfl, Below.refl _ _⟩
  have e1 : ((X.length : Int) != (Y.length : Int)) = false := by rw [bne_eq_false_iff_eq]; omega
  have e2 : (X.length == Y.length) = true := by rw [beq_iff_eq]; exact hle
  have HLE := Aside0.mk hle
  clear hle
  go_enter Try.func32, Try.ntmps32
  go_upto_region 4 with (fail)
  clear e1 e2
  go_loopw [13] (fun v wr => ∃ k : Nat, v = .int .i64 k ∧ Aside0 (k ≤ X.length) ∧ Aside0 (X.take k = Y.take k) ∧ Aside0 (∃ m, wr = w.drewN m)) (fun v _ => X.length - (intOf v).toNat)
  case atStart => exact ⟨0, rfl, ⟨Nat.zero_le _⟩, ⟨rfl⟩, ⟨0, rfl⟩⟩
  case round =>
    obtain ⟨k, rfl, K, HT, HW⟩ := hrel
    obtain ⟨m, rfl⟩ := HW.out
    by_cases hlt : k < X.length
    · have h1 : (k : Int) < (X.length : Int) := by omega
      have h1b : (k : Int) < (Y.length : Int) := by have := HLE.out; omega
      have h2 : (0 : Int) ≤ (k : Int) := by omega
      have hly : k < Y.length := by have := HLE.out; omega
      have hwk : wrap64 ((k : Int) + 1) = ((k + 1 : Nat) : Int) := by have := HL.out; unfold wrap64; omega
      obtain ⟨ad, e_, x0, x1, x2⟩ := at_T66 HCX.out k h2 h1
      obtain ⟨bd, e2_, y0, y1, y2⟩ := at_T66 HCY.out k h2 h1b
      have hX : X[k]? = some (rd_T66 X k) := by unfold rd_T66; rw [Int.toNat_natCast, List.getD_eq_getElem?_getD, List.getElem?_eq_getElem (by omega)]; rfl
      have hY : Y[k]? = some (rd_T66 Y k) := by unfold rd_T66; rw [Int.toNat_natCast, List.getD_eq_getElem?_getD, List.getElem?_eq_getElem (by omega)]; rfl
      have HX := Aside0.mk hX; have HY := Aside0.mk hY; clear hX hY
      simp only [Int.toNat_natCast] at x0 x1 x2 y0 y1 y2
      subst e_; subst e2_
      generalize rd_T66 X k = x at *
      generalize rd_T66 Y k = y at *
      have HLT := Aside0.mk hlt
      by_cases hxy : x = y
      · have n1 : (!(x.f0 == y.f0) || (!(x.f1 == y.f1) || (!(x.f2 == y.f2)))) = false := (neT_iff x y).2 hxy
        have HXY := Aside0.mk hxy; clear hxy hlt
        go_wp2
        go_quiet (fail)
        go_wp2
        (try simp only [hwk])
        refine ⟨⟨k + 1, rfl, ⟨HLT.out⟩, ⟨take_eqT HT.out HX.out (by rw [HXY.out]; exact HY.out)⟩, ⟨⟨_, rfl⟩⟩⟩, ?_⟩
        have := HLT.out
        show X.length - (intOf (.int .i64 ((k + 1 : Nat) : Int))).toNat < X.length - (intOf (.int .i64 (k : Int))).toNat
        simp only [intOf]; omega
      · have n1 : (!(x.f0 == y.f0) || (!(x.f1 == y.f1) || (!(x.f2 == y.f2)))) = true := by rw [← Bool.not_eq_false, neT_iff]; exact hxy
        have HN := Aside0.mk (show decide (X = Y) = false from decide_eq_false (take_neT HX.out HY.out hxy))
        clear hxy hlt
        go_wp2
        go_quiet (fail)
        go_wp2
        go_ret
        exact ⟨by rw [HN.out]; rfl, pw_below_drewN (pw_below_drewN (Below.refl _ _) _) _⟩
    · obtain rfl : k = X.length := by have := K.out; omega
      have HN := Aside0.mk (show decide (X = Y) = true by
        have h := HT.out
        rw [List.take_length, HLE.out, List.take_length] at h
        exact decide_eq_true h)
      clear hlt
      go_wp2
      go_ret
      exact ⟨by rw [HN.out]; rfl, pw_below_drewN (Below.refl _ _) _⟩
set_option maxHeartbeats 1000000 in
theorem eqQ_calls (X Y : List S68) (A : Option Addr) (c : Nat) (B : Option Addr) (d : Nat) (w : World) (hx : Kd.C k68 w A X.length X) (hy : Kd.C k68 w B Y.length Y) (hl : X.length ≤ 1000000) : Calls Try.prog 33 #[.slice A X.length c, .slice B Y.length d] w fun e w' => e = .returned (.bool (decide (X = Y))) ∧ Below w.heap.size w w' := by
  have hu := Try.underlying68
  have HCX := Aside0.mk hx; have HCY := Aside0.mk hy; have HL := Aside0.mk hl
  clear hx hy hl
  by_cases hle : X.length = Y.length
  rotate_left
  · have e1 : ((X.length : Int) != (Y.length : Int)) = true := by rw [bne_iff_ne]; omega
    have e2 : (X.length == Y.length) = false := by rw [beq_eq_false_iff_ne]; exact hle
    have HN := Aside0.mk (show decide (X = Y) = false from decide_eq_false fun e => hle (by rw [e]))
    clear hle
    go_enter Try.func33, Try.ntmps33
    go_wp2
    go_ret
    exact ⟨by rw [HN.out]; rfl, Below.refl _ _⟩
  have e1 : ((X.length : Int) != (Y.length : Int)) = false := by rw [bne_eq_false_iff_eq]; omega
  have e2 : (X.length == Y.length) = true := by rw [beq_iff_eq]; exact hle
  have HLE := Aside0.mk hle
  clear hle
  go_enter Try.func33, Try.ntmps33
  go_upto_region 4 with (fail)
  clear e1 e2
  go_loopw [13] (fun v wr => ∃ k : Nat, v = .int .i64 k ∧ Aside0 (k ≤ X.length) ∧ Aside0 (X.take k = Y.take k) ∧ Aside0 (∃ m, wr = w.drewN m)) (fun v _ => X.length - (intOf v).toNat)
  case atStart => exact ⟨0, rfl, ⟨Nat.zero_le _⟩, ⟨rfl⟩, ⟨0, rfl⟩⟩
  case round =>
    obtain ⟨k, rfl, K, HT, HW⟩ := hrel
    obtain ⟨m, rfl⟩ := HW.out
    by_cases hlt : k < X.length
    · have h1 : (k : Int) < (X.length : Int) := by omega
      have h1b : (k : Int) < (Y.length : Int) := by have := HLE.out; omega
      have h2 : (0 : Int) ≤ (k : Int) := by omega
      have hly : k < Y.length := by have := HLE.out; omega
      have hwk : wrap64 ((k : Int) + 1) = ((k + 1 : Nat) : Int) := by have := HL.out; unfold wrap64; omega
      obtain ⟨ad, e_, x0, x1⟩ := at_T68 HCX.out k h2 h1
      obtain ⟨bd, e2_, y0, y1⟩ := at_T68 HCY.out k h2 h1b
      have hX : X[k]? = some (rd_T68 X k) := by unfold rd_T68; rw [Int.toNat_natCast, List.getD_eq_getElem?_getD, List.getElem?_eq_getElem (by omega)]; rfl
      have hY : Y[k]? = some (rd_T68 Y k) := by unfold rd_T68; rw [Int.toNat_natCast, List.getD_eq_getElem?_getD, List.getElem?_eq_getElem (by omega)]; rfl
      have HX := Aside0.mk hX; have HY := Aside0.mk hY; clear hX hY
      simp only [Int.toNat_natCast] at x0 x1 y0 y1
      subst e_; subst e2_
      generalize rd_T68 X k = x at *
      generalize rd_T68 Y k = y at *
      have HLT := Aside0.mk hlt
      by_cases hxy : x = y
      · have n1 : (!(x.f0 == y.f0) || (!(x.f1 == y.f1))) = false := (neQ_iff x y).2 hxy
        have HXY := Aside0.mk hxy; clear hxy hlt
        go_wp2
        go_quiet (fail)
        go_wp2
        (try simp only [hwk])
        refine ⟨⟨k + 1, rfl, ⟨HLT.out⟩, ⟨take_eqQ HT.out HX.out (by rw [HXY.out]; exact HY.out)⟩, ⟨⟨_, rfl⟩⟩⟩, ?_⟩
        have := HLT.out
        show X.length - (intOf (.int .i64 ((k + 1 : Nat) : Int))).toNat < X.length - (intOf (.int .i64 (k : Int))).toNat
        simp only [intOf]; omega
      · have n1 : (!(x.f0 == y.f0) || (!(x.f1 == y.f1))) = true := by rw [← Bool.not_eq_false, neQ_iff]; exact hxy
        have HN := Aside0.mk (show decide (X = Y) = false from decide_eq_false (take_neQ HX.out HY.out hxy))
        clear hxy hlt
        go_wp2
        go_quiet (fail)
        go_wp2
        go_ret
        exact ⟨by rw [HN.out]; rfl, pw_below_drewN (pw_below_drewN (Below.refl _ _) _) _⟩
    · obtain rfl : k = X.length := by have := K.out; omega
      have HN := Aside0.mk (show decide (X = Y) = true by
        have h := HT.out
        rw [List.take_length, HLE.out, List.take_length] at h
        exact decide_eq_true h)
      clear hlt
      go_wp2
      go_ret
      exact ⟨by rw [HN.out]; rfl, pw_below_drewN (Below.refl _ _) _⟩
theorem two_below {w w' : World} {X Y : Obj} (hb : Below ((w.alloc X).alloc Y).heap.size ((w.alloc X).alloc Y) w') : w'.heap[w.heap.size]? = some X ∧ w'.heap[w.heap.size + 1]? = some Y := by
  have h1 : ((w.alloc X).alloc Y).heap[w.heap.size]? = some X := blk_below (heap_alloc_new w X) ((Below.refl _ _).alloc (Nat.le_refl _) Y)
  have h2 := heap_alloc_new (w.alloc X) Y
  rw [show (w.alloc X).heap.size = w.heap.size + 1 by simp] at h2
  exact ⟨blk_below h1 hb, blk_below h2 hb⟩
abbrev aggR (r : S25) (B9 : Option Addr) (d9 : Nat) (B10 : Option Addr) (d10 : Nat) : Value := .agg #[.int .i64 r.f0, .int .i64 r.f1, .int .i64 r.f2, .int .i64 r.f3, .int .i64 r.f4, .int .i64 r.f5, .int .i64 r.f6, .string r.f7, .string r.f8, .slice B9 r.f9.length d9, .slice B10 r.f10.length d10]
set_option maxHeartbeats 4000000 in
theorem same_calls (a b : S25) (A9 : Option Addr) (c9 : Nat) (A10 : Option Addr) (c10 : Nat) (B9 : Option Addr) (d9 : Nat) (B10 : Option Addr) (d10 : Nat) (w : World)
    (h9 : Kd.C k66 w A9 a.f9.length a.f9) (h10 : Kd.C k68 w A10 a.f10.length a.f10) (g9 : Kd.C k66 w B9 b.f9.length b.f9) (g10 : Kd.C k68 w B10 b.f10.length b.f10) (s9 : a.f9.length ≤ 1000000) (s10 : a.f10.length ≤ 1000000) :
    Calls Try.prog 18 #[aggR a A9 c9 A10 c10, aggR b B9 d9 B10 d10] w fun e w' => e = .returned (.bool (decide (a = b))) ∧ Below w.heap.size w w' := by
  have H9 := Aside0.mk h9; have H10 := Aside0.mk h10; have G9 := Aside0.mk g9; have G10 := Aside0.mk g10; have S9 := Aside0.mk s9; have S10 := Aside0.mk s10
  clear h9 h10 g9 g10 s9 s10
  by_cases h0 : a.f0 = b.f0
  rotate_left
  · have e0 : (a.f0 == b.f0) = false := by rw [beq_eq_false_iff_ne]; exact h0
    have HN := Aside0.mk (show decide (a = b) = false from decide_eq_false fun e => h0 (by rw [e]))
    clear h0
    go_enter Try.func18, Try.ntmps18
    go_wp2
    go_ret
    exact ⟨by rw [HN.out]; rfl, ((Below.refl w.heap.size w).alloc (Nat.le_refl _) _).alloc (by simp) _⟩
  have e0 : (a.f0 == b.f0) = true := by rw [beq_iff_eq, h0]
  have Q0 := Aside0.mk h0; clear h0
  by_cases h1 : a.f1 = b.f1
  rotate_left
  · have e1 : (a.f1 == b.f1) = false := by rw [beq_eq_false_iff_ne]; exact h1
    have HN := Aside0.mk (show decide (a = b) = false from decide_eq_false fun e => h1 (by rw [e]))
    clear h1
    go_enter Try.func18, Try.ntmps18
    go_wp2
    go_ret
    exact ⟨by rw [HN.out]; rfl, ((Below.refl w.heap.size w).alloc (Nat.le_refl _) _).alloc (by simp) _⟩
  have e1 : (a.f1 == b.f1) = true := by rw [beq_iff_eq, h1]
  have Q1 := Aside0.mk h1; clear h1
  by_cases h2 : a.f2 = b.f2
  rotate_left
  · have e2 : (a.f2 == b.f2) = false := by rw [beq_eq_false_iff_ne]; exact h2
    have HN := Aside0.mk (show decide (a = b) = false from decide_eq_false fun e => h2 (by rw [e]))
    clear h2
    go_enter Try.func18, Try.ntmps18
    go_wp2
    go_ret
    exact ⟨by rw [HN.out]; rfl, ((Below.refl w.heap.size w).alloc (Nat.le_refl _) _).alloc (by simp) _⟩
  have e2 : (a.f2 == b.f2) = true := by rw [beq_iff_eq, h2]
  have Q2 := Aside0.mk h2; clear h2
  by_cases h3 : a.f3 = b.f3
  rotate_left
  · have e3 : (a.f3 == b.f3) = false := by rw [beq_eq_false_iff_ne]; exact h3
    have HN := Aside0.mk (show decide (a = b) = false from decide_eq_false fun e => h3 (by rw [e]))
    clear h3
    go_enter Try.func18, Try.ntmps18
    go_wp2
    go_ret
    exact ⟨by rw [HN.out]; rfl, ((Below.refl w.heap.size w).alloc (Nat.le_refl _) _).alloc (by simp) _⟩
  have e3 : (a.f3 == b.f3) = true := by rw [beq_iff_eq, h3]
  have Q3 := Aside0.mk h3; clear h3
  by_cases h4 : a.f4 = b.f4
  rotate_left
  · have e4 : (a.f4 == b.f4) = false := by rw [beq_eq_false_iff_ne]; exact h4
    have HN := Aside0.mk (show decide (a = b) = false from decide_eq_false fun e => h4 (by rw [e]))
    clear h4
    go_enter Try.func18, Try.ntmps18
    go_wp2
    go_ret
    exact ⟨by rw [HN.out]; rfl, ((Below.refl w.heap.size w).alloc (Nat.le_refl _) _).alloc (by simp) _⟩
  have e4 : (a.f4 == b.f4) = true := by rw [beq_iff_eq, h4]
  have Q4 := Aside0.mk h4; clear h4
  by_cases h5 : a.f5 = b.f5
  rotate_left
  · have e5 : (a.f5 == b.f5) = false := by rw [beq_eq_false_iff_ne]; exact h5
    have HN := Aside0.mk (show decide (a = b) = false from decide_eq_false fun e => h5 (by rw [e]))
    clear h5
    go_enter Try.func18, Try.ntmps18
    go_wp2
    go_ret
    exact ⟨by rw [HN.out]; rfl, ((Below.refl w.heap.size w).alloc (Nat.le_refl _) _).alloc (by simp) _⟩
  have e5 : (a.f5 == b.f5) = true := by rw [beq_iff_eq, h5]
  have Q5 := Aside0.mk h5; clear h5
  by_cases h6 : a.f6 = b.f6
  rotate_left
  · have e6 : (a.f6 == b.f6) = false := by rw [beq_eq_false_iff_ne]; exact h6
    have HN := Aside0.mk (show decide (a = b) = false from decide_eq_false fun e => h6 (by rw [e]))
    clear h6
    go_enter Try.func18, Try.ntmps18
    go_wp2
    go_ret
    exact ⟨by rw [HN.out]; rfl, ((Below.refl w.heap.size w).alloc (Nat.le_refl _) _).alloc (by simp) _⟩
  have e6 : (a.f6 == b.f6) = true := by rw [beq_iff_eq, h6]
  have Q6 := Aside0.mk h6; clear h6
  by_cases h7 : a.f7 = b.f7
  rotate_left
  · have e7 : (a.f7.toList == b.f7.toList) = false := by rw [beq_eq_false_iff_ne]; exact fun e => h7 ((toList_eq _ _).1 e)
    have HN := Aside0.mk (show decide (a = b) = false from decide_eq_false fun e => h7 (by rw [e]))
    clear h7
    go_enter Try.func18, Try.ntmps18
    go_wp2
    go_ret
    exact ⟨by rw [HN.out]; rfl, ((Below.refl w.heap.size w).alloc (Nat.le_refl _) _).alloc (by simp) _⟩
  have e7 : (a.f7.toList == b.f7.toList) = true := by rw [beq_iff_eq, h7]
  have Q7 := Aside0.mk h7; clear h7
  by_cases h8 : a.f8 = b.f8
  rotate_left
  · have e8 : (a.f8.toList == b.f8.toList) = false := by rw [beq_eq_false_iff_ne]; exact fun e => h8 ((toList_eq _ _).1 e)
    have HN := Aside0.mk (show decide (a = b) = false from decide_eq_false fun e => h8 (by rw [e]))
    clear h8
    go_enter Try.func18, Try.ntmps18
    go_wp2
    go_ret
    exact ⟨by rw [HN.out]; rfl, ((Below.refl w.heap.size w).alloc (Nat.le_refl _) _).alloc (by simp) _⟩
  have e8 : (a.f8.toList == b.f8.toList) = true := by rw [beq_iff_eq, h8]
  have Q8 := Aside0.mk h8; clear h8
  by_cases h9 : a.f9 = b.f9
  rotate_left
  · have HN := Aside0.mk (show decide (a = b) = false from decide_eq_false fun e => h9 (by rw [e])); have HD9 := Aside0.mk (decide_eq_false h9)
    clear h9
    go_enter Try.func18, Try.ntmps18
    go_wp2_with (go_at_call 32; (with_reducible refine (eqT_calls a.f9 b.f9 _ _ _ _ _ (Kd.C_below H9.out (((Below.refl w.heap.size w).alloc (Nat.le_refl _) _).alloc (by simp) _)) (Kd.C_below G9.out (((Below.refl w.heap.size w).alloc (Nat.le_refl _) _).alloc (by simp) _)) S9.out).mono ?_); rintro e w9 ⟨rfl, hb_⟩; rw [HD9.out]; have HB9 := Aside0.mk (Below.trans (((Below.refl w.heap.size w).alloc (Nat.le_refl _) _).alloc (by simp) _) (hb_.mono (by simp; omega))); have q10 : w9.cell? ⟨w.heap.size, 10, none⟩ = some (.slice A10 a.f10.length c10) := blk_cell (two_below hb_).1 10; have p10 : w9.cell? ⟨w.heap.size + 1, 10, none⟩ = some (.slice B10 b.f10.length d10) := blk_cell (two_below hb_).2 10; clear hb_)
    go_ret
    exact ⟨by rw [HN.out]; rfl, HB9.out⟩
  by_cases h10 : a.f10 = b.f10
  rotate_left
  · have HN := Aside0.mk (show decide (a = b) = false from decide_eq_false fun e => h10 (by rw [e])); have HD9 := Aside0.mk (decide_eq_true h9); have HD10 := Aside0.mk (decide_eq_false h10)
    clear h9 h10
    go_enter Try.func18, Try.ntmps18
    go_wp2_with (first | (go_at_call 32; (with_reducible refine (eqT_calls a.f9 b.f9 _ _ _ _ _ (Kd.C_below H9.out (((Below.refl w.heap.size w).alloc (Nat.le_refl _) _).alloc (by simp) _)) (Kd.C_below G9.out (((Below.refl w.heap.size w).alloc (Nat.le_refl _) _).alloc (by simp) _)) S9.out).mono ?_); rintro e w9 ⟨rfl, hb_⟩; rw [HD9.out]; have HB9 := Aside0.mk (Below.trans (((Below.refl w.heap.size w).alloc (Nat.le_refl _) _).alloc (by simp) _) (hb_.mono (by simp; omega))); have q10 : w9.cell? ⟨w.heap.size, 10, none⟩ = some (.slice A10 a.f10.length c10) := blk_cell (two_below hb_).1 10; have p10 : w9.cell? ⟨w.heap.size + 1, 10, none⟩ = some (.slice B10 b.f10.length d10) := blk_cell (two_below hb_).2 10; clear hb_) | (go_at_call 33; (with_reducible refine (eqQ_calls a.f10 b.f10 _ _ _ _ _ (Kd.C_below H10.out (HB9.out)) (Kd.C_below G10.out (HB9.out)) S10.out).mono ?_); rintro e w10 ⟨rfl, hb_⟩; rw [HD10.out]; have HB10 := Aside0.mk (HB9.out.trans (hb_.mono HB9.out.size)); clear hb_))
    go_ret
    exact ⟨by rw [HN.out]; rfl, HB10.out⟩
  have HN := Aside0.mk (show decide (a = b) = true from decide_eq_true (by obtain ⟨a0, a1, a2, a3, a4, a5, a6, a7, a8, a9, a10⟩ := a; obtain ⟨b0, b1, b2, b3, b4, b5, b6, b7, b8, b9, b10⟩ := b; have := Q0.out; have := Q1.out; have := Q2.out; have := Q3.out; have := Q4.out; have := Q5.out; have := Q6.out; have := Q7.out; have := Q8.out; simp_all)); have HD9 := Aside0.mk (decide_eq_true h9); have HD10 := Aside0.mk (decide_eq_true h10)
  clear h9 h10
  go_enter Try.func18, Try.ntmps18
  go_wp2_with (first | (go_at_call 32; (with_reducible refine (eqT_calls a.f9 b.f9 _ _ _ _ _ (Kd.C_below H9.out (((Below.refl w.heap.size w).alloc (Nat.le_refl _) _).alloc (by simp) _)) (Kd.C_below G9.out (((Below.refl w.heap.size w).alloc (Nat.le_refl _) _).alloc (by simp) _)) S9.out).mono ?_); rintro e w9 ⟨rfl, hb_⟩; rw [HD9.out]; have HB9 := Aside0.mk (Below.trans (((Below.refl w.heap.size w).alloc (Nat.le_refl _) _).alloc (by simp) _) (hb_.mono (by simp; omega))); have q10 : w9.cell? ⟨w.heap.size, 10, none⟩ = some (.slice A10 a.f10.length c10) := blk_cell (two_below hb_).1 10; have p10 : w9.cell? ⟨w.heap.size + 1, 10, none⟩ = some (.slice B10 b.f10.length d10) := blk_cell (two_below hb_).2 10; clear hb_) | (go_at_call 33; (with_reducible refine (eqQ_calls a.f10 b.f10 _ _ _ _ _ (Kd.C_below H10.out (HB9.out)) (Kd.C_below G10.out (HB9.out)) S10.out).mono ?_); rintro e w10 ⟨rfl, hb_⟩; rw [HD10.out]; have HB10 := Aside0.mk (HB9.out.trans (hb_.mono HB9.out.size)); clear hb_))
  go_ret
  exact ⟨by rw [HN.out]; rfl, HB10.out⟩
end Go.Proofs.Ytcfknakmamcinaa.Sa
namespace Go.Proofs.Ytcfknakmamcinaa.Wr
open Go.Proofs.Ytcfknakmamcinaa.Rgn
open Go.Proofs.Ytcfknakmamcinaa.Rp Go.Proofs.Ytcfknakmamcinaa.X4
open Go Go.RowKit Go.ChangeMaps Go.Proofs.Ytcfknakmamcinaa.Arr Go.Proofs.Ytcfknakmamcinaa.Ow Go.Proofs.YtcfknakmamcinaaW.PrintWords Go.Proofs.YtcfknakmamcinaaW.PrintLast Go.Proofs.YtcfknakmamcinaaW.PrintMore
set_option linter.unusedVariables false
set_option linter.unusedSimpArgs false
set_option maxHeartbeats 4000000 in
theorem rrec_one (g : Nat) (s : ByteArray) (p p1 : Nat) (w : World) (h : RD w g s p) (hp : p ≤ s.size) (hs : s.size ≤ 1000000000) (h0 : smallR s p = some (1, p1)) : Calls Try.prog 31 #[.pointer (some ⟨g, 0, none⟩)] w fun x w' => AfterX g w s p x w' := by
  have HS := Aside0.mk (show s.size ≤ 1000000000000 by omega); have HL := Aside0.mk hp
  have HE := Aside0.mk (show recR s p = (numR s p1).bind fun t => (numR s t.2).bind fun v => (smallR s v.2).bind fun pg => (smallR s pg.2).bind fun o => (smallR s o.2).bind fun n => (takeR s n.2 n.1.toNat).bind fun b => (takeR s b.2 n.1.toNat).bind fun f => some (⟨1, t.1, pg.1, o.1, v.1, 0, 0, b.1, f.1, [], []⟩, f.2) by unfold recR; rw [h0, Option.bind_some]; simp only; rw [if_pos trivial])
  have HL1 := Aside0.mk (show p1 ≤ s.size from (small_some h0).2.1)
  have HP1 := Aside0.mk h0
  have HGN := Aside0.mk (show g ≠ w.heap.size from Nat.ne_of_lt (blk_lt h))
  have HGO := Aside0.mk (show ¬ One g w.heap.size from fun e => HGN.out (e : w.heap.size = g).symm)
  have HR0 := Aside0.mk (h.below ((Below.refl _ _).alloc (Nat.le_refl _) (.cells #[.int .i64 0, .int .i64 0, .int .i64 0, .int .i64 0, .int .i64 0, .int .i64 0, .int .i64 0, .string ⟨#[]⟩, .string ⟨#[]⟩, .slice none 0 0, .slice none 0 0] 25)))
  have F0 := Aside0.mk ((FS.refl (One g) w).alloc (.cells #[.int .i64 0, .int .i64 0, .int .i64 0, .int .i64 0, .int .i64 0, .int .i64 0, .int .i64 0, .string ⟨#[]⟩, .string ⟨#[]⟩, .slice none 0 0, .slice none 0 0] 25))
  have HO0 := Aside0.mk (heap_alloc_new w (.cells #[.int .i64 0, .int .i64 0, .int .i64 0, .int .i64 0, .int .i64 0, .int .i64 0, .int .i64 0, .string ⟨#[]⟩, .string ⟨#[]⟩, .slice none 0 0, .slice none 0 0] 25))
  clear h hp hs h0
  go_enter Try.func31, Try.ntmps31
  go_upto_region 1 with (fail)
  generalize w.alloc (.cells #[.int .i64 0, .int .i64 0, .int .i64 0, .int .i64 0, .int .i64 0, .int .i64 0, .int .i64 0, .string ⟨#[]⟩, .string ⟨#[]⟩, .slice none 0 0, .slice none 0 0] 25) = W1 at *
  go_upto_region 2 with (go_at_call 44; (with_reducible refine (smallr_calls g s p _ HR0.out HL.out HS.out).mono ?_); rintro e w1 hx; rw [HP1.out] at hx; obtain ⟨rfl, hk_, hf_⟩ := hx; have HR1 := Aside0.mk hk_; have F1 := Aside0.mk (F0.out.trans hf_); have HO1 := Aside0.mk (hf_.old HO0.out HGO.out); clear hk_ hf_ HR0 F0 HO0; have y0 : w1.cell? ⟨w.heap.size, 0, none⟩ = some _ := blk_cell HO1.out 0; have f0 := blk_frozen HO1.out 0)
  have HO1x := Aside0.mk (show (w1.setCell ⟨w.heap.size, 0, none⟩ (.int .i64 1)).heap[w.heap.size]? = some (.cells #[.int .i64 1, .int .i64 0, .int .i64 0, .int .i64 0, .int .i64 0, .int .i64 0, .int .i64 0, .string ⟨#[]⟩, .string ⟨#[]⟩, .slice none 0 0, .slice none 0 0] 25 (0, 0)) from set_blk HO1.out 0 (.int .i64 1))
  have HR1x := Aside0.mk (show RD (w1.setCell ⟨w.heap.size, 0, none⟩ (.int .i64 1)) g s p1 from keep_set HR1.out HGN.out 0 _)
  have F1x := Aside0.mk (FS.fresh F1.out 0 (.int .i64 1))
  have HL1x := HL1
  clear HO1 HR1 F1 y0 f0
  generalize w1.setCell ⟨w.heap.size, 0, none⟩ (.int .i64 1) = u1 at *
  have k0 : u1.cell? ⟨w.heap.size, 0, none⟩ = some (.int .i64 1) := blk_cell HO1x.out 0
  go_upto_region 7 with (fail)
  cases hp2 : numR s p1 with
  | none =>
    have HP2 := Aside0.mk hp2; clear hp2
    go_wp2_with (first | (go_at_call 45; (with_reducible refine (numr_calls g s p1 _ HR1x.out HL1x.out HS.out).mono ?_); rintro e w2 hx; rw [HP2.out] at hx; obtain ⟨rfl, hf_⟩ := hx; have F2 := Aside0.mk (F1x.out.trans hf_); clear hf_))
    refine ⟨rfl, ?_⟩
    show AfterX g w s p (gaveUp 3) _
    unfold AfterX
    rw [show recR s p = none by rw [HE.out]; simp only [HP2.out, Option.bind_some, Option.bind_none]]
    exact ⟨rfl, F2.out⟩
  | some q_ =>
  obtain ⟨t_, p2⟩ := q_
  have HL2 := Aside0.mk (show p2 ≤ s.size from (rnum_some hp2).2.1)
  have HP2 := Aside0.mk hp2; clear hp2
  cases hp3 : numR s p2 with
  | none =>
    have HP3 := Aside0.mk hp3; clear hp3
    go_wp2_with (first | (go_at_call 45; (with_reducible refine (numr_calls g s p1 _ HR1x.out HL1x.out HS.out).mono ?_); rintro e w2 hx; rw [HP2.out] at hx; obtain ⟨rfl, hk_, hf_⟩ := hx; have HR2 := Aside0.mk hk_; have F2 := Aside0.mk (F1x.out.trans hf_); have HO2 := Aside0.mk (hf_.old HO1x.out HGO.out); clear hk_ hf_ HR1x F1x HO1x) | (go_at_call 45; (with_reducible refine (numr_calls g s p2 _ HR2.out HL2.out HS.out).mono ?_); rintro e w3 hx; rw [HP3.out] at hx; obtain ⟨rfl, hf_⟩ := hx; have F3 := Aside0.mk (F2.out.trans hf_); clear hf_))
    refine ⟨rfl, ?_⟩
    show AfterX g w s p (gaveUp 3) _
    unfold AfterX
    rw [show recR s p = none by rw [HE.out]; simp only [HP2.out, HP3.out, Option.bind_some, Option.bind_none]]
    exact ⟨rfl, F3.out⟩
  | some q_ =>
  obtain ⟨v_, p3⟩ := q_
  have HL3 := Aside0.mk (show p3 ≤ s.size from (rnum_some hp3).2.1)
  have HP3 := Aside0.mk hp3; clear hp3
  go_upto_region 8 with (first | (go_at_call 45; (with_reducible refine (numr_calls g s p1 _ HR1x.out HL1x.out HS.out).mono ?_); rintro e w2 hx; rw [HP2.out] at hx; obtain ⟨rfl, hk_, hf_⟩ := hx; have HR2 := Aside0.mk hk_; have F2 := Aside0.mk (F1x.out.trans hf_); have HO2 := Aside0.mk (hf_.old HO1x.out HGO.out); clear hk_ hf_ HR1x F1x HO1x) | (go_at_call 45; (with_reducible refine (numr_calls g s p2 _ HR2.out HL2.out HS.out).mono ?_); rintro e w3 hx; rw [HP3.out] at hx; obtain ⟨rfl, hk_, hf_⟩ := hx; have HR3 := Aside0.mk hk_; have F3 := Aside0.mk (F2.out.trans hf_); have HO3 := Aside0.mk (hf_.old HO2.out HGO.out); clear hk_ hf_ HR2 F2 HO2; have y1 : w3.cell? ⟨w.heap.size, 1, none⟩ = some _ := blk_cell HO3.out 1; have f1 := blk_frozen HO3.out 1; have y4 : w3.cell? ⟨w.heap.size, 4, none⟩ = some _ := blk_cell HO3.out 4; have f4 := blk_frozen HO3.out 4))
  have HO3x := Aside0.mk (show ((w3.setCell ⟨w.heap.size, 1, none⟩ (.int .i64 t_)).setCell ⟨w.heap.size, 4, none⟩ (.int .i64 v_)).heap[w.heap.size]? = some (.cells #[.int .i64 1, .int .i64 t_, .int .i64 0, .int .i64 0, .int .i64 v_, .int .i64 0, .int .i64 0, .string ⟨#[]⟩, .string ⟨#[]⟩, .slice none 0 0, .slice none 0 0] 25 (0, 0)) from (set_blk (set_blk HO3.out 1 (.int .i64 t_)) 4 (.int .i64 v_)))
  have HR3x := Aside0.mk (show RD ((w3.setCell ⟨w.heap.size, 1, none⟩ (.int .i64 t_)).setCell ⟨w.heap.size, 4, none⟩ (.int .i64 v_)) g s p3 from (keep_set (keep_set HR3.out HGN.out 1 (.int .i64 t_)) HGN.out 4 (.int .i64 v_)))
  have F3x := Aside0.mk (FS.fresh (FS.fresh F3.out 1 (.int .i64 t_)) 4 (.int .i64 v_))
  have HL3x := HL3
  clear HO3 HR3 F3 y1 f1 y4 f4
  generalize (w3.setCell ⟨w.heap.size, 1, none⟩ (.int .i64 t_)).setCell ⟨w.heap.size, 4, none⟩ (.int .i64 v_) = u3 at *
  (try clear k0)
  have k0 : u3.cell? ⟨w.heap.size, 0, none⟩ = some (.int .i64 1) := blk_cell HO3x.out 0
  go_upto_region 12 with (fail)
  cases hp4 : smallR s p3 with
  | none =>
    have HP4 := Aside0.mk hp4; clear hp4
    go_wp2_with (first | (go_at_call 44; (with_reducible refine (smallr_calls g s p3 _ HR3x.out HL3x.out HS.out).mono ?_); rintro e w4 hx; rw [HP4.out] at hx; obtain ⟨rfl, hf_⟩ := hx; have F4 := Aside0.mk (F3x.out.trans hf_); clear hf_))
    refine ⟨rfl, ?_⟩
    show AfterX g w s p (gaveUp 3) _
    unfold AfterX
    rw [show recR s p = none by rw [HE.out]; simp only [HP2.out, HP3.out, HP4.out, Option.bind_some, Option.bind_none]]
    exact ⟨rfl, F4.out⟩
  | some q_ =>
  obtain ⟨a_, p4⟩ := q_
  have HL4 := Aside0.mk (show p4 ≤ s.size from (small_some hp4).2.1)
  have HNa_ := Aside0.mk (show 0 ≤ a_ ∧ a_ ≤ 255 from (small_some hp4).2.2)
  have HP4 := Aside0.mk hp4; clear hp4
  cases hp5 : smallR s p4 with
  | none =>
    have HP5 := Aside0.mk hp5; clear hp5
    go_wp2_with (first | (go_at_call 44; (with_reducible refine (smallr_calls g s p3 _ HR3x.out HL3x.out HS.out).mono ?_); rintro e w4 hx; rw [HP4.out] at hx; obtain ⟨rfl, hk_, hf_⟩ := hx; have HR4 := Aside0.mk hk_; have F4 := Aside0.mk (F3x.out.trans hf_); have HO4 := Aside0.mk (hf_.old HO3x.out HGO.out); clear hk_ hf_ HR3x F3x HO3x) | (go_at_call 44; (with_reducible refine (smallr_calls g s p4 _ HR4.out HL4.out HS.out).mono ?_); rintro e w5 hx; rw [HP5.out] at hx; obtain ⟨rfl, hf_⟩ := hx; have F5 := Aside0.mk (F4.out.trans hf_); clear hf_))
    refine ⟨rfl, ?_⟩
    show AfterX g w s p (gaveUp 3) _
    unfold AfterX
    rw [show recR s p = none by rw [HE.out]; simp only [HP2.out, HP3.out, HP4.out, HP5.out, Option.bind_some, Option.bind_none]]
    exact ⟨rfl, F5.out⟩
  | some q_ =>
  obtain ⟨b_, p5⟩ := q_
  have HL5 := Aside0.mk (show p5 ≤ s.size from (small_some hp5).2.1)
  have HNb_ := Aside0.mk (show 0 ≤ b_ ∧ b_ ≤ 255 from (small_some hp5).2.2)
  have HP5 := Aside0.mk hp5; clear hp5
  go_upto_region 13 with (first | (go_at_call 44; (with_reducible refine (smallr_calls g s p3 _ HR3x.out HL3x.out HS.out).mono ?_); rintro e w4 hx; rw [HP4.out] at hx; obtain ⟨rfl, hk_, hf_⟩ := hx; have HR4 := Aside0.mk hk_; have F4 := Aside0.mk (F3x.out.trans hf_); have HO4 := Aside0.mk (hf_.old HO3x.out HGO.out); clear hk_ hf_ HR3x F3x HO3x) | (go_at_call 44; (with_reducible refine (smallr_calls g s p4 _ HR4.out HL4.out HS.out).mono ?_); rintro e w5 hx; rw [HP5.out] at hx; obtain ⟨rfl, hk_, hf_⟩ := hx; have HR5 := Aside0.mk hk_; have F5 := Aside0.mk (F4.out.trans hf_); have HO5 := Aside0.mk (hf_.old HO4.out HGO.out); clear hk_ hf_ HR4 F4 HO4; have y2 : w5.cell? ⟨w.heap.size, 2, none⟩ = some _ := blk_cell HO5.out 2; have f2 := blk_frozen HO5.out 2; have y3 : w5.cell? ⟨w.heap.size, 3, none⟩ = some _ := blk_cell HO5.out 3; have f3 := blk_frozen HO5.out 3))
  have HO5x := Aside0.mk (show ((w5.setCell ⟨w.heap.size, 2, none⟩ (.int .i64 a_)).setCell ⟨w.heap.size, 3, none⟩ (.int .i64 b_)).heap[w.heap.size]? = some (.cells #[.int .i64 1, .int .i64 t_, .int .i64 a_, .int .i64 b_, .int .i64 v_, .int .i64 0, .int .i64 0, .string ⟨#[]⟩, .string ⟨#[]⟩, .slice none 0 0, .slice none 0 0] 25 (0, 0)) from (set_blk (set_blk HO5.out 2 (.int .i64 a_)) 3 (.int .i64 b_)))
  have HR5x := Aside0.mk (show RD ((w5.setCell ⟨w.heap.size, 2, none⟩ (.int .i64 a_)).setCell ⟨w.heap.size, 3, none⟩ (.int .i64 b_)) g s p5 from (keep_set (keep_set HR5.out HGN.out 2 (.int .i64 a_)) HGN.out 3 (.int .i64 b_)))
  have F5x := Aside0.mk (FS.fresh (FS.fresh F5.out 2 (.int .i64 a_)) 3 (.int .i64 b_))
  have HL5x := HL5
  clear HO5 HR5 F5 y2 f2 y3 f3
  generalize (w5.setCell ⟨w.heap.size, 2, none⟩ (.int .i64 a_)).setCell ⟨w.heap.size, 3, none⟩ (.int .i64 b_) = u5 at *
  (try clear k0)
  have k0 : u5.cell? ⟨w.heap.size, 0, none⟩ = some (.int .i64 1) := blk_cell HO5x.out 0
  cases hp6 : smallR s p5 with
  | none =>
    have HP6 := Aside0.mk hp6; clear hp6
    go_wp2_with (first | (go_at_call 44; (with_reducible refine (smallr_calls g s p5 _ HR5x.out HL5x.out HS.out).mono ?_); rintro e w6 hx; rw [HP6.out] at hx; obtain ⟨rfl, hf_⟩ := hx; have F6 := Aside0.mk (F5x.out.trans hf_); clear hf_))
    refine ⟨rfl, ?_⟩
    show AfterX g w s p (gaveUp 3) _
    unfold AfterX
    rw [show recR s p = none by rw [HE.out]; simp only [HP2.out, HP3.out, HP4.out, HP5.out, HP6.out, Option.bind_some, Option.bind_none]]
    exact ⟨rfl, F6.out⟩
  | some q_ =>
  obtain ⟨n_, p6⟩ := q_
  have HL6 := Aside0.mk (show p6 ≤ s.size from (small_some hp6).2.1)
  have HNn_ := Aside0.mk (show 0 ≤ n_ ∧ n_ ≤ 255 from (small_some hp6).2.2)
  have HP6 := Aside0.mk hp6; clear hp6
  go_upto_region 14 with (first | (go_at_call 44; (with_reducible refine (smallr_calls g s p5 _ HR5x.out HL5x.out HS.out).mono ?_); rintro e w6 hx; rw [HP6.out] at hx; obtain ⟨rfl, hk_, hf_⟩ := hx; have HR6 := Aside0.mk hk_; have F6 := Aside0.mk (F5x.out.trans hf_); have HO6 := Aside0.mk (hf_.old HO5x.out HGO.out); clear hk_ hf_ HR5x F5x HO5x))
  (try clear k0)
  have k0 : w6.cell? ⟨w.heap.size, 0, none⟩ = some (.int .i64 1) := blk_cell HO6.out 0
  go_upto_region 15 with (fail)
  cases hp7 : takeR s p6 n_.toNat with
  | none =>
    have HP7 := Aside0.mk hp7; clear hp7
    go_wp2_with (first | (go_at_call 46; (with_reducible refine (take_lit g s p6 n_.toNat n_ (Int.toNat_of_nonneg HNn_.out.1).symm _ HR6.out HL6.out HS.out (by have := HNn_.out.2; omega)).mono ?_); rintro e w7 hx; rw [HP7.out] at hx; obtain ⟨rfl, hf_⟩ := hx; have F7 := Aside0.mk (F6.out.trans hf_); clear hf_))
    refine ⟨rfl, ?_⟩
    show AfterX g w s p (gaveUp 3) _
    unfold AfterX
    rw [show recR s p = none by rw [HE.out]; simp only [HP2.out, HP3.out, HP4.out, HP5.out, HP6.out, HP7.out, Option.bind_some, Option.bind_none]]
    exact ⟨rfl, F7.out⟩
  | some q_ =>
  obtain ⟨c_, p7⟩ := q_
  have HL7 := Aside0.mk (show p7 ≤ s.size from (take_size hp7).2.2)
  have HP7 := Aside0.mk hp7; clear hp7
  go_upto_region 16 with (first | (go_at_call 46; (with_reducible refine (take_lit g s p6 n_.toNat n_ (Int.toNat_of_nonneg HNn_.out.1).symm _ HR6.out HL6.out HS.out (by have := HNn_.out.2; omega)).mono ?_); rintro e w7 hx; rw [HP7.out] at hx; obtain ⟨rfl, hk_, hf_⟩ := hx; have HR7 := Aside0.mk hk_; have F7 := Aside0.mk (F6.out.trans hf_); have HO7 := Aside0.mk (hf_.old HO6.out HGO.out); clear hk_ hf_ HR6 F6 HO6; have y7 : w7.cell? ⟨w.heap.size, 7, none⟩ = some _ := blk_cell HO7.out 7; have f7 := blk_frozen HO7.out 7))
  have HO7x := Aside0.mk (show (w7.setCell ⟨w.heap.size, 7, none⟩ (.string c_)).heap[w.heap.size]? = some (.cells #[.int .i64 1, .int .i64 t_, .int .i64 a_, .int .i64 b_, .int .i64 v_, .int .i64 0, .int .i64 0, .string c_, .string ⟨#[]⟩, .slice none 0 0, .slice none 0 0] 25 (0, 0)) from (set_blk HO7.out 7 (.string c_)))
  have HR7x := Aside0.mk (show RD (w7.setCell ⟨w.heap.size, 7, none⟩ (.string c_)) g s p7 from (keep_set HR7.out HGN.out 7 (.string c_)))
  have F7x := Aside0.mk (FS.fresh F7.out 7 (.string c_))
  have HL7x := HL7
  clear HO7 HR7 F7 y7 f7
  generalize w7.setCell ⟨w.heap.size, 7, none⟩ (.string c_) = u7 at *
  (try clear k0)
  have k0 : u7.cell? ⟨w.heap.size, 0, none⟩ = some (.int .i64 1) := blk_cell HO7x.out 0
  cases hp8 : takeR s p7 n_.toNat with
  | none =>
    have HP8 := Aside0.mk hp8; clear hp8
    go_wp2_with (first | (go_at_call 46; (with_reducible refine (take_lit g s p7 n_.toNat n_ (Int.toNat_of_nonneg HNn_.out.1).symm _ HR7x.out HL7x.out HS.out (by have := HNn_.out.2; omega)).mono ?_); rintro e w8 hx; rw [HP8.out] at hx; obtain ⟨rfl, hf_⟩ := hx; have F8 := Aside0.mk (F7x.out.trans hf_); clear hf_))
    refine ⟨rfl, ?_⟩
    show AfterX g w s p (gaveUp 3) _
    unfold AfterX
    rw [show recR s p = none by rw [HE.out]; simp only [HP2.out, HP3.out, HP4.out, HP5.out, HP6.out, HP7.out, HP8.out, Option.bind_some, Option.bind_none]]
    exact ⟨rfl, F8.out⟩
  | some q_ =>
  obtain ⟨d_, p8⟩ := q_
  have HL8 := Aside0.mk (show p8 ≤ s.size from (take_size hp8).2.2)
  have HP8 := Aside0.mk hp8; clear hp8
  go_upto_region 27 with (first | (go_at_call 46; (with_reducible refine (take_lit g s p7 n_.toNat n_ (Int.toNat_of_nonneg HNn_.out.1).symm _ HR7x.out HL7x.out HS.out (by have := HNn_.out.2; omega)).mono ?_); rintro e w8 hx; rw [HP8.out] at hx; obtain ⟨rfl, hk_, hf_⟩ := hx; have HR8 := Aside0.mk hk_; have F8 := Aside0.mk (F7x.out.trans hf_); have HO8 := Aside0.mk (hf_.old HO7x.out HGO.out); clear hk_ hf_ HR7x F7x HO7x; have y8 : w8.cell? ⟨w.heap.size, 8, none⟩ = some _ := blk_cell HO8.out 8; have f8 := blk_frozen HO8.out 8))
  have HO8x := Aside0.mk (show (w8.setCell ⟨w.heap.size, 8, none⟩ (.string d_)).heap[w.heap.size]? = some (.cells #[.int .i64 1, .int .i64 t_, .int .i64 a_, .int .i64 b_, .int .i64 v_, .int .i64 0, .int .i64 0, .string c_, .string d_, .slice none 0 0, .slice none 0 0] 25 (0, 0)) from (set_blk HO8.out 8 (.string d_)))
  have HR8x := Aside0.mk (show RD (w8.setCell ⟨w.heap.size, 8, none⟩ (.string d_)) g s p8 from (keep_set HR8.out HGN.out 8 (.string d_)))
  have F8x := Aside0.mk (FS.fresh F8.out 8 (.string d_))
  have HL8x := HL8
  clear HO8 HR8 F8 y8 f8
  generalize w8.setCell ⟨w.heap.size, 8, none⟩ (.string d_) = u8 at *
  (try clear k0)
  have k0 : u8.cell? ⟨w.heap.size, 0, none⟩ = some (.int .i64 1) := blk_cell HO8x.out 0
  clear k0
  obtain ⟨x0, f0, x1, f1, x2, f2, x3, f3, x4, f4, x5, f5, x6, f6, x7, f7, x8, f8, x9, f9, x10, f10⟩ := cellsF11 u8 (w.heap.size) HO8x.out
  have HB_ := HO8x; have HRR := HR8x; have FFF := F8x
  go_wp2
  refine bodyPost_ret (v := .agg #[.int .i64 1, .int .i64 t_, .int .i64 a_, .int .i64 b_, .int .i64 v_, .int .i64 0, .int .i64 0, .string c_, .string d_, .slice none 0 0, .slice none 0 0]) (by simp [results, Try.results31, go_sem, x0, x1, x2, x3, x4, x5, x6, x7, x8, x9, x10]) rfl ?_
  show AfterX g w s p _ _
  unfold AfterX
  rw [show recR s p = some ((⟨1, t_, a_, b_, v_, 0, 0, c_, d_, [], []⟩ : S25), p8) by rw [HE.out]; (try simp only [HP2.out, HP3.out, HP4.out, HP5.out, HP6.out, HP7.out, HP8.out, Option.bind_some])]
  refine ⟨_, _, rfl, Kd.R_nil _ _ _ _ _, Kd.R_nil _ _ _ _ _, ?_, ?_⟩
  · show RD _ g s p8
    repeat (first | (with_reducible refine RD.keep ?_ HGN.out _ _) | (with_reducible exact HRR.out))
  · repeat (first | (with_reducible refine FS.fresh ?_ _ _) | (with_reducible exact FFF.out))
end Go.Proofs.Ytcfknakmamcinaa.Wr
namespace Go.Proofs.Ytcfknakmamcinaa.Wr
open Go.Proofs.Ytcfknakmamcinaa.Rgn
open Go.Proofs.Ytcfknakmamcinaa.Rp Go.Proofs.Ytcfknakmamcinaa.X4
open Go Go.RowKit Go.ChangeMaps Go.Proofs.Ytcfknakmamcinaa.Arr Go.Proofs.Ytcfknakmamcinaa.Ow Go.Proofs.YtcfknakmamcinaaW.PrintWords Go.Proofs.YtcfknakmamcinaaW.PrintLast Go.Proofs.YtcfknakmamcinaaW.PrintMore
set_option linter.unusedVariables false
set_option linter.unusedSimpArgs false
set_option maxHeartbeats 4000000 in
theorem rrec_two (g : Nat) (s : ByteArray) (p p1 : Nat) (w : World) (h : RD w g s p) (hp : p ≤ s.size) (hs : s.size ≤ 1000000000) (h0 : smallR s p = some (2, p1)) : Calls Try.prog 31 #[.pointer (some ⟨g, 0, none⟩)] w fun x w' => AfterX g w s p x w' := by
  have HS := Aside0.mk (show s.size ≤ 1000000000000 by omega); have HL := Aside0.mk hp
  have HE := Aside0.mk (show recR s p = (numR s p1).bind fun t => (numR s t.2).bind fun v => (numR s v.2).bind fun x => (smallR s x.2).bind fun pg => (smallR s pg.2).bind fun o => (smallR s o.2).bind fun n => (takeR s n.2 n.1.toNat).bind fun f => some (⟨2, t.1, pg.1, o.1, v.1, x.1, 0, ⟨#[]⟩, f.1, [], []⟩, f.2) by unfold recR; rw [h0, Option.bind_some]; simp only; rw [if_neg (by decide), if_pos trivial])
  have HL1 := Aside0.mk (show p1 ≤ s.size from (small_some h0).2.1)
  have HP1 := Aside0.mk h0
  have HGN := Aside0.mk (show g ≠ w.heap.size from Nat.ne_of_lt (blk_lt h))
  have HGO := Aside0.mk (show ¬ One g w.heap.size from fun e => HGN.out (e : w.heap.size = g).symm)
  have HR0 := Aside0.mk (h.below ((Below.refl _ _).alloc (Nat.le_refl _) (.cells #[.int .i64 0, .int .i64 0, .int .i64 0, .int .i64 0, .int .i64 0, .int .i64 0, .int .i64 0, .string ⟨#[]⟩, .string ⟨#[]⟩, .slice none 0 0, .slice none 0 0] 25)))
  have F0 := Aside0.mk ((FS.refl (One g) w).alloc (.cells #[.int .i64 0, .int .i64 0, .int .i64 0, .int .i64 0, .int .i64 0, .int .i64 0, .int .i64 0, .string ⟨#[]⟩, .string ⟨#[]⟩, .slice none 0 0, .slice none 0 0] 25))
  have HO0 := Aside0.mk (heap_alloc_new w (.cells #[.int .i64 0, .int .i64 0, .int .i64 0, .int .i64 0, .int .i64 0, .int .i64 0, .int .i64 0, .string ⟨#[]⟩, .string ⟨#[]⟩, .slice none 0 0, .slice none 0 0] 25))
  clear h hp hs h0
  go_enter Try.func31, Try.ntmps31
  go_upto_region 1 with (fail)
  generalize w.alloc (.cells #[.int .i64 0, .int .i64 0, .int .i64 0, .int .i64 0, .int .i64 0, .int .i64 0, .int .i64 0, .string ⟨#[]⟩, .string ⟨#[]⟩, .slice none 0 0, .slice none 0 0] 25) = W1 at *
  go_upto_region 2 with (go_at_call 44; (with_reducible refine (smallr_calls g s p _ HR0.out HL.out HS.out).mono ?_); rintro e w1 hx; rw [HP1.out] at hx; obtain ⟨rfl, hk_, hf_⟩ := hx; have HR1 := Aside0.mk hk_; have F1 := Aside0.mk (F0.out.trans hf_); have HO1 := Aside0.mk (hf_.old HO0.out HGO.out); clear hk_ hf_ HR0 F0 HO0; have y0 : w1.cell? ⟨w.heap.size, 0, none⟩ = some _ := blk_cell HO1.out 0; have f0 := blk_frozen HO1.out 0)
  have HO1x := Aside0.mk (show (w1.setCell ⟨w.heap.size, 0, none⟩ (.int .i64 2)).heap[w.heap.size]? = some (.cells #[.int .i64 2, .int .i64 0, .int .i64 0, .int .i64 0, .int .i64 0, .int .i64 0, .int .i64 0, .string ⟨#[]⟩, .string ⟨#[]⟩, .slice none 0 0, .slice none 0 0] 25 (0, 0)) from set_blk HO1.out 0 (.int .i64 2))
  have HR1x := Aside0.mk (show RD (w1.setCell ⟨w.heap.size, 0, none⟩ (.int .i64 2)) g s p1 from keep_set HR1.out HGN.out 0 _)
  have F1x := Aside0.mk (FS.fresh F1.out 0 (.int .i64 2))
  have HL1x := HL1
  clear HO1 HR1 F1 y0 f0
  generalize w1.setCell ⟨w.heap.size, 0, none⟩ (.int .i64 2) = u1 at *
  have k0 : u1.cell? ⟨w.heap.size, 0, none⟩ = some (.int .i64 2) := blk_cell HO1x.out 0
  go_upto_region 7 with (fail)
  cases hp2 : numR s p1 with
  | none =>
    have HP2 := Aside0.mk hp2; clear hp2
    go_wp2_with (first | (go_at_call 45; (with_reducible refine (numr_calls g s p1 _ HR1x.out HL1x.out HS.out).mono ?_); rintro e w2 hx; rw [HP2.out] at hx; obtain ⟨rfl, hf_⟩ := hx; have F2 := Aside0.mk (F1x.out.trans hf_); clear hf_))
    refine ⟨rfl, ?_⟩
    show AfterX g w s p (gaveUp 3) _
    unfold AfterX
    rw [show recR s p = none by rw [HE.out]; simp only [HP2.out, Option.bind_some, Option.bind_none]]
    exact ⟨rfl, F2.out⟩
  | some q_ =>
  obtain ⟨t_, p2⟩ := q_
  have HL2 := Aside0.mk (show p2 ≤ s.size from (rnum_some hp2).2.1)
  have HP2 := Aside0.mk hp2; clear hp2
  cases hp3 : numR s p2 with
  | none =>
    have HP3 := Aside0.mk hp3; clear hp3
    go_wp2_with (first | (go_at_call 45; (with_reducible refine (numr_calls g s p1 _ HR1x.out HL1x.out HS.out).mono ?_); rintro e w2 hx; rw [HP2.out] at hx; obtain ⟨rfl, hk_, hf_⟩ := hx; have HR2 := Aside0.mk hk_; have F2 := Aside0.mk (F1x.out.trans hf_); have HO2 := Aside0.mk (hf_.old HO1x.out HGO.out); clear hk_ hf_ HR1x F1x HO1x) | (go_at_call 45; (with_reducible refine (numr_calls g s p2 _ HR2.out HL2.out HS.out).mono ?_); rintro e w3 hx; rw [HP3.out] at hx; obtain ⟨rfl, hf_⟩ := hx; have F3 := Aside0.mk (F2.out.trans hf_); clear hf_))
    refine ⟨rfl, ?_⟩
    show AfterX g w s p (gaveUp 3) _
    unfold AfterX
    rw [show recR s p = none by rw [HE.out]; simp only [HP2.out, HP3.out, Option.bind_some, Option.bind_none]]
    exact ⟨rfl, F3.out⟩
  | some q_ =>
  obtain ⟨v_, p3⟩ := q_
  have HL3 := Aside0.mk (show p3 ≤ s.size from (rnum_some hp3).2.1)
  have HP3 := Aside0.mk hp3; clear hp3
  go_upto_region 8 with (first | (go_at_call 45; (with_reducible refine (numr_calls g s p1 _ HR1x.out HL1x.out HS.out).mono ?_); rintro e w2 hx; rw [HP2.out] at hx; obtain ⟨rfl, hk_, hf_⟩ := hx; have HR2 := Aside0.mk hk_; have F2 := Aside0.mk (F1x.out.trans hf_); have HO2 := Aside0.mk (hf_.old HO1x.out HGO.out); clear hk_ hf_ HR1x F1x HO1x) | (go_at_call 45; (with_reducible refine (numr_calls g s p2 _ HR2.out HL2.out HS.out).mono ?_); rintro e w3 hx; rw [HP3.out] at hx; obtain ⟨rfl, hk_, hf_⟩ := hx; have HR3 := Aside0.mk hk_; have F3 := Aside0.mk (F2.out.trans hf_); have HO3 := Aside0.mk (hf_.old HO2.out HGO.out); clear hk_ hf_ HR2 F2 HO2; have y1 : w3.cell? ⟨w.heap.size, 1, none⟩ = some _ := blk_cell HO3.out 1; have f1 := blk_frozen HO3.out 1; have y4 : w3.cell? ⟨w.heap.size, 4, none⟩ = some _ := blk_cell HO3.out 4; have f4 := blk_frozen HO3.out 4))
  have HO3x := Aside0.mk (show ((w3.setCell ⟨w.heap.size, 1, none⟩ (.int .i64 t_)).setCell ⟨w.heap.size, 4, none⟩ (.int .i64 v_)).heap[w.heap.size]? = some (.cells #[.int .i64 2, .int .i64 t_, .int .i64 0, .int .i64 0, .int .i64 v_, .int .i64 0, .int .i64 0, .string ⟨#[]⟩, .string ⟨#[]⟩, .slice none 0 0, .slice none 0 0] 25 (0, 0)) from (set_blk (set_blk HO3.out 1 (.int .i64 t_)) 4 (.int .i64 v_)))
  have HR3x := Aside0.mk (show RD ((w3.setCell ⟨w.heap.size, 1, none⟩ (.int .i64 t_)).setCell ⟨w.heap.size, 4, none⟩ (.int .i64 v_)) g s p3 from (keep_set (keep_set HR3.out HGN.out 1 (.int .i64 t_)) HGN.out 4 (.int .i64 v_)))
  have F3x := Aside0.mk (FS.fresh (FS.fresh F3.out 1 (.int .i64 t_)) 4 (.int .i64 v_))
  have HL3x := HL3
  clear HO3 HR3 F3 y1 f1 y4 f4
  generalize (w3.setCell ⟨w.heap.size, 1, none⟩ (.int .i64 t_)).setCell ⟨w.heap.size, 4, none⟩ (.int .i64 v_) = u3 at *
  (try clear k0)
  have k0 : u3.cell? ⟨w.heap.size, 0, none⟩ = some (.int .i64 2) := blk_cell HO3x.out 0
  go_upto_region 9 with (fail)
  cases hp4 : numR s p3 with
  | none =>
    have HP4 := Aside0.mk hp4; clear hp4
    go_wp2_with (first | (go_at_call 45; (with_reducible refine (numr_calls g s p3 _ HR3x.out HL3x.out HS.out).mono ?_); rintro e w4 hx; rw [HP4.out] at hx; obtain ⟨rfl, hf_⟩ := hx; have F4 := Aside0.mk (F3x.out.trans hf_); clear hf_))
    refine ⟨rfl, ?_⟩
    show AfterX g w s p (gaveUp 3) _
    unfold AfterX
    rw [show recR s p = none by rw [HE.out]; simp only [HP2.out, HP3.out, HP4.out, Option.bind_some, Option.bind_none]]
    exact ⟨rfl, F4.out⟩
  | some q_ =>
  obtain ⟨x_, p4⟩ := q_
  have HL4 := Aside0.mk (show p4 ≤ s.size from (rnum_some hp4).2.1)
  have HP4 := Aside0.mk hp4; clear hp4
  go_upto_region 10 with (first | (go_at_call 45; (with_reducible refine (numr_calls g s p3 _ HR3x.out HL3x.out HS.out).mono ?_); rintro e w4 hx; rw [HP4.out] at hx; obtain ⟨rfl, hk_, hf_⟩ := hx; have HR4 := Aside0.mk hk_; have F4 := Aside0.mk (F3x.out.trans hf_); have HO4 := Aside0.mk (hf_.old HO3x.out HGO.out); clear hk_ hf_ HR3x F3x HO3x; have y5 : w4.cell? ⟨w.heap.size, 5, none⟩ = some _ := blk_cell HO4.out 5; have f5 := blk_frozen HO4.out 5))
  have HO4x := Aside0.mk (show (w4.setCell ⟨w.heap.size, 5, none⟩ (.int .i64 x_)).heap[w.heap.size]? = some (.cells #[.int .i64 2, .int .i64 t_, .int .i64 0, .int .i64 0, .int .i64 v_, .int .i64 x_, .int .i64 0, .string ⟨#[]⟩, .string ⟨#[]⟩, .slice none 0 0, .slice none 0 0] 25 (0, 0)) from (set_blk HO4.out 5 (.int .i64 x_)))
  have HR4x := Aside0.mk (show RD (w4.setCell ⟨w.heap.size, 5, none⟩ (.int .i64 x_)) g s p4 from (keep_set HR4.out HGN.out 5 (.int .i64 x_)))
  have F4x := Aside0.mk (FS.fresh F4.out 5 (.int .i64 x_))
  have HL4x := HL4
  clear HO4 HR4 F4 y5 f5
  generalize w4.setCell ⟨w.heap.size, 5, none⟩ (.int .i64 x_) = u4 at *
  (try clear k0)
  have k0 : u4.cell? ⟨w.heap.size, 0, none⟩ = some (.int .i64 2) := blk_cell HO4x.out 0
  go_upto_region 12 with (fail)
  cases hp5 : smallR s p4 with
  | none =>
    have HP5 := Aside0.mk hp5; clear hp5
    go_wp2_with (first | (go_at_call 44; (with_reducible refine (smallr_calls g s p4 _ HR4x.out HL4x.out HS.out).mono ?_); rintro e w5 hx; rw [HP5.out] at hx; obtain ⟨rfl, hf_⟩ := hx; have F5 := Aside0.mk (F4x.out.trans hf_); clear hf_))
    refine ⟨rfl, ?_⟩
    show AfterX g w s p (gaveUp 3) _
    unfold AfterX
    rw [show recR s p = none by rw [HE.out]; simp only [HP2.out, HP3.out, HP4.out, HP5.out, Option.bind_some, Option.bind_none]]
    exact ⟨rfl, F5.out⟩
  | some q_ =>
  obtain ⟨a_, p5⟩ := q_
  have HL5 := Aside0.mk (show p5 ≤ s.size from (small_some hp5).2.1)
  have HNa_ := Aside0.mk (show 0 ≤ a_ ∧ a_ ≤ 255 from (small_some hp5).2.2)
  have HP5 := Aside0.mk hp5; clear hp5
  cases hp6 : smallR s p5 with
  | none =>
    have HP6 := Aside0.mk hp6; clear hp6
    go_wp2_with (first | (go_at_call 44; (with_reducible refine (smallr_calls g s p4 _ HR4x.out HL4x.out HS.out).mono ?_); rintro e w5 hx; rw [HP5.out] at hx; obtain ⟨rfl, hk_, hf_⟩ := hx; have HR5 := Aside0.mk hk_; have F5 := Aside0.mk (F4x.out.trans hf_); have HO5 := Aside0.mk (hf_.old HO4x.out HGO.out); clear hk_ hf_ HR4x F4x HO4x) | (go_at_call 44; (with_reducible refine (smallr_calls g s p5 _ HR5.out HL5.out HS.out).mono ?_); rintro e w6 hx; rw [HP6.out] at hx; obtain ⟨rfl, hf_⟩ := hx; have F6 := Aside0.mk (F5.out.trans hf_); clear hf_))
    refine ⟨rfl, ?_⟩
    show AfterX g w s p (gaveUp 3) _
    unfold AfterX
    rw [show recR s p = none by rw [HE.out]; simp only [HP2.out, HP3.out, HP4.out, HP5.out, HP6.out, Option.bind_some, Option.bind_none]]
    exact ⟨rfl, F6.out⟩
  | some q_ =>
  obtain ⟨b_, p6⟩ := q_
  have HL6 := Aside0.mk (show p6 ≤ s.size from (small_some hp6).2.1)
  have HNb_ := Aside0.mk (show 0 ≤ b_ ∧ b_ ≤ 255 from (small_some hp6).2.2)
  have HP6 := Aside0.mk hp6; clear hp6
  go_upto_region 13 with (first | (go_at_call 44; (with_reducible refine (smallr_calls g s p4 _ HR4x.out HL4x.out HS.out).mono ?_); rintro e w5 hx; rw [HP5.out] at hx; obtain ⟨rfl, hk_, hf_⟩ := hx; have HR5 := Aside0.mk hk_; have F5 := Aside0.mk (F4x.out.trans hf_); have HO5 := Aside0.mk (hf_.old HO4x.out HGO.out); clear hk_ hf_ HR4x F4x HO4x) | (go_at_call 44; (with_reducible refine (smallr_calls g s p5 _ HR5.out HL5.out HS.out).mono ?_); rintro e w6 hx; rw [HP6.out] at hx; obtain ⟨rfl, hk_, hf_⟩ := hx; have HR6 := Aside0.mk hk_; have F6 := Aside0.mk (F5.out.trans hf_); have HO6 := Aside0.mk (hf_.old HO5.out HGO.out); clear hk_ hf_ HR5 F5 HO5; have y2 : w6.cell? ⟨w.heap.size, 2, none⟩ = some _ := blk_cell HO6.out 2; have f2 := blk_frozen HO6.out 2; have y3 : w6.cell? ⟨w.heap.size, 3, none⟩ = some _ := blk_cell HO6.out 3; have f3 := blk_frozen HO6.out 3))
  have HO6x := Aside0.mk (show ((w6.setCell ⟨w.heap.size, 2, none⟩ (.int .i64 a_)).setCell ⟨w.heap.size, 3, none⟩ (.int .i64 b_)).heap[w.heap.size]? = some (.cells #[.int .i64 2, .int .i64 t_, .int .i64 a_, .int .i64 b_, .int .i64 v_, .int .i64 x_, .int .i64 0, .string ⟨#[]⟩, .string ⟨#[]⟩, .slice none 0 0, .slice none 0 0] 25 (0, 0)) from (set_blk (set_blk HO6.out 2 (.int .i64 a_)) 3 (.int .i64 b_)))
  have HR6x := Aside0.mk (show RD ((w6.setCell ⟨w.heap.size, 2, none⟩ (.int .i64 a_)).setCell ⟨w.heap.size, 3, none⟩ (.int .i64 b_)) g s p6 from (keep_set (keep_set HR6.out HGN.out 2 (.int .i64 a_)) HGN.out 3 (.int .i64 b_)))
  have F6x := Aside0.mk (FS.fresh (FS.fresh F6.out 2 (.int .i64 a_)) 3 (.int .i64 b_))
  have HL6x := HL6
  clear HO6 HR6 F6 y2 f2 y3 f3
  generalize (w6.setCell ⟨w.heap.size, 2, none⟩ (.int .i64 a_)).setCell ⟨w.heap.size, 3, none⟩ (.int .i64 b_) = u6 at *
  (try clear k0)
  have k0 : u6.cell? ⟨w.heap.size, 0, none⟩ = some (.int .i64 2) := blk_cell HO6x.out 0
  cases hp7 : smallR s p6 with
  | none =>
    have HP7 := Aside0.mk hp7; clear hp7
    go_wp2_with (first | (go_at_call 44; (with_reducible refine (smallr_calls g s p6 _ HR6x.out HL6x.out HS.out).mono ?_); rintro e w7 hx; rw [HP7.out] at hx; obtain ⟨rfl, hf_⟩ := hx; have F7 := Aside0.mk (F6x.out.trans hf_); clear hf_))
    refine ⟨rfl, ?_⟩
    show AfterX g w s p (gaveUp 3) _
    unfold AfterX
    rw [show recR s p = none by rw [HE.out]; simp only [HP2.out, HP3.out, HP4.out, HP5.out, HP6.out, HP7.out, Option.bind_some, Option.bind_none]]
    exact ⟨rfl, F7.out⟩
  | some q_ =>
  obtain ⟨n_, p7⟩ := q_
  have HL7 := Aside0.mk (show p7 ≤ s.size from (small_some hp7).2.1)
  have HNn_ := Aside0.mk (show 0 ≤ n_ ∧ n_ ≤ 255 from (small_some hp7).2.2)
  have HP7 := Aside0.mk hp7; clear hp7
  go_upto_region 14 with (first | (go_at_call 44; (with_reducible refine (smallr_calls g s p6 _ HR6x.out HL6x.out HS.out).mono ?_); rintro e w7 hx; rw [HP7.out] at hx; obtain ⟨rfl, hk_, hf_⟩ := hx; have HR7 := Aside0.mk hk_; have F7 := Aside0.mk (F6x.out.trans hf_); have HO7 := Aside0.mk (hf_.old HO6x.out HGO.out); clear hk_ hf_ HR6x F6x HO6x))
  (try clear k0)
  have k0 : w7.cell? ⟨w.heap.size, 0, none⟩ = some (.int .i64 2) := blk_cell HO7.out 0
  go_upto_region 16 with (fail)
  cases hp8 : takeR s p7 n_.toNat with
  | none =>
    have HP8 := Aside0.mk hp8; clear hp8
    go_wp2_with (first | (go_at_call 46; (with_reducible refine (take_lit g s p7 n_.toNat n_ (Int.toNat_of_nonneg HNn_.out.1).symm _ HR7.out HL7.out HS.out (by have := HNn_.out.2; omega)).mono ?_); rintro e w8 hx; rw [HP8.out] at hx; obtain ⟨rfl, hf_⟩ := hx; have F8 := Aside0.mk (F7.out.trans hf_); clear hf_))
    refine ⟨rfl, ?_⟩
    show AfterX g w s p (gaveUp 3) _
    unfold AfterX
    rw [show recR s p = none by rw [HE.out]; simp only [HP2.out, HP3.out, HP4.out, HP5.out, HP6.out, HP7.out, HP8.out, Option.bind_some, Option.bind_none]]
    exact ⟨rfl, F8.out⟩
  | some q_ =>
  obtain ⟨d_, p8⟩ := q_
  have HL8 := Aside0.mk (show p8 ≤ s.size from (take_size hp8).2.2)
  have HP8 := Aside0.mk hp8; clear hp8
  go_upto_region 27 with (first | (go_at_call 46; (with_reducible refine (take_lit g s p7 n_.toNat n_ (Int.toNat_of_nonneg HNn_.out.1).symm _ HR7.out HL7.out HS.out (by have := HNn_.out.2; omega)).mono ?_); rintro e w8 hx; rw [HP8.out] at hx; obtain ⟨rfl, hk_, hf_⟩ := hx; have HR8 := Aside0.mk hk_; have F8 := Aside0.mk (F7.out.trans hf_); have HO8 := Aside0.mk (hf_.old HO7.out HGO.out); clear hk_ hf_ HR7 F7 HO7; have y8 : w8.cell? ⟨w.heap.size, 8, none⟩ = some _ := blk_cell HO8.out 8; have f8 := blk_frozen HO8.out 8))
  have HO8x := Aside0.mk (show (w8.setCell ⟨w.heap.size, 8, none⟩ (.string d_)).heap[w.heap.size]? = some (.cells #[.int .i64 2, .int .i64 t_, .int .i64 a_, .int .i64 b_, .int .i64 v_, .int .i64 x_, .int .i64 0, .string ⟨#[]⟩, .string d_, .slice none 0 0, .slice none 0 0] 25 (0, 0)) from (set_blk HO8.out 8 (.string d_)))
  have HR8x := Aside0.mk (show RD (w8.setCell ⟨w.heap.size, 8, none⟩ (.string d_)) g s p8 from (keep_set HR8.out HGN.out 8 (.string d_)))
  have F8x := Aside0.mk (FS.fresh F8.out 8 (.string d_))
  have HL8x := HL8
  clear HO8 HR8 F8 y8 f8
  generalize w8.setCell ⟨w.heap.size, 8, none⟩ (.string d_) = u8 at *
  (try clear k0)
  have k0 : u8.cell? ⟨w.heap.size, 0, none⟩ = some (.int .i64 2) := blk_cell HO8x.out 0
  clear k0
  obtain ⟨x0, f0, x1, f1, x2, f2, x3, f3, x4, f4, x5, f5, x6, f6, x7, f7, x8, f8, x9, f9, x10, f10⟩ := cellsF11 u8 (w.heap.size) HO8x.out
  have HB_ := HO8x; have HRR := HR8x; have FFF := F8x
  go_wp2
  refine bodyPost_ret (v := .agg #[.int .i64 2, .int .i64 t_, .int .i64 a_, .int .i64 b_, .int .i64 v_, .int .i64 x_, .int .i64 0, .string ⟨#[]⟩, .string d_, .slice none 0 0, .slice none 0 0]) (by simp [results, Try.results31, go_sem, x0, x1, x2, x3, x4, x5, x6, x7, x8, x9, x10]) rfl ?_
  show AfterX g w s p _ _
  unfold AfterX
  rw [show recR s p = some ((⟨2, t_, a_, b_, v_, x_, 0, ⟨#[]⟩, d_, [], []⟩ : S25), p8) by rw [HE.out]; (try simp only [HP2.out, HP3.out, HP4.out, HP5.out, HP6.out, HP7.out, HP8.out, Option.bind_some])]
  refine ⟨_, _, rfl, Kd.R_nil _ _ _ _ _, Kd.R_nil _ _ _ _ _, ?_, ?_⟩
  · show RD _ g s p8
    repeat (first | (with_reducible refine RD.keep ?_ HGN.out _ _) | (with_reducible exact HRR.out))
  · repeat (first | (with_reducible refine FS.fresh ?_ _ _) | (with_reducible exact FFF.out))
set_option maxHeartbeats 4000000 in
theorem rrec_none (g : Nat) (s : ByteArray) (p p1 : Nat) (v0 : Int) (hk : v0 ≠ 1 ∧ v0 ≠ 2 ∧ ¬ (v0 = 3 ∨ v0 = 4) ∧ v0 ≠ 6) (w : World) (h : RD w g s p) (hp : p ≤ s.size) (hs : s.size ≤ 1000000000) (h0 : smallR s p = some (v0, p1)) : Calls Try.prog 31 #[.pointer (some ⟨g, 0, none⟩)] w fun x w' => AfterX g w s p x w' := by
  have HS := Aside0.mk (show s.size ≤ 1000000000000 by omega); have HL := Aside0.mk hp
  have HE := Aside0.mk (show recR s p = some (⟨v0, 0, 0, 0, 0, 0, 0, ⟨#[]⟩, ⟨#[]⟩, [], []⟩, p1) by unfold recR; rw [h0, Option.bind_some]; simp only; rw [if_neg hk.1, if_neg hk.2.1, if_neg hk.2.2.1, if_neg hk.2.2.2])
  have HL1 := Aside0.mk (show p1 ≤ s.size from (small_some h0).2.1)
  have HP1 := Aside0.mk h0
  have HGN := Aside0.mk (show g ≠ w.heap.size from Nat.ne_of_lt (blk_lt h))
  have HGO := Aside0.mk (show ¬ One g w.heap.size from fun e => HGN.out (e : w.heap.size = g).symm)
  have HR0 := Aside0.mk (h.below ((Below.refl _ _).alloc (Nat.le_refl _) (.cells #[.int .i64 0, .int .i64 0, .int .i64 0, .int .i64 0, .int .i64 0, .int .i64 0, .int .i64 0, .string ⟨#[]⟩, .string ⟨#[]⟩, .slice none 0 0, .slice none 0 0] 25)))
  have F0 := Aside0.mk ((FS.refl (One g) w).alloc (.cells #[.int .i64 0, .int .i64 0, .int .i64 0, .int .i64 0, .int .i64 0, .int .i64 0, .int .i64 0, .string ⟨#[]⟩, .string ⟨#[]⟩, .slice none 0 0, .slice none 0 0] 25))
  have HO0 := Aside0.mk (heap_alloc_new w (.cells #[.int .i64 0, .int .i64 0, .int .i64 0, .int .i64 0, .int .i64 0, .int .i64 0, .int .i64 0, .string ⟨#[]⟩, .string ⟨#[]⟩, .slice none 0 0, .slice none 0 0] 25))
  have e1 : (v0 == 1) = false := by rw [beq_eq_false_iff_ne]; exact hk.1
  have e2 : (v0 == 2) = false := by rw [beq_eq_false_iff_ne]; exact hk.2.1
  have e3 : (v0 == 3) = false := by rw [beq_eq_false_iff_ne]; omega
  have e4 : (v0 == 4) = false := by rw [beq_eq_false_iff_ne]; omega
  have e6 : (v0 == 6) = false := by rw [beq_eq_false_iff_ne]; exact hk.2.2.2
  clear h hp hs h0 hk
  go_enter Try.func31, Try.ntmps31
  go_upto_region 1 with (fail)
  generalize w.alloc (.cells #[.int .i64 0, .int .i64 0, .int .i64 0, .int .i64 0, .int .i64 0, .int .i64 0, .int .i64 0, .string ⟨#[]⟩, .string ⟨#[]⟩, .slice none 0 0, .slice none 0 0] 25) = W1 at *
  go_upto_region 2 with (go_at_call 44; (with_reducible refine (smallr_calls g s p _ HR0.out HL.out HS.out).mono ?_); rintro e w1 hx; rw [HP1.out] at hx; obtain ⟨rfl, hk_, hf_⟩ := hx; have HR1 := Aside0.mk hk_; have F1 := Aside0.mk (F0.out.trans hf_); have HO1 := Aside0.mk (hf_.old HO0.out HGO.out); clear hk_ hf_ HR0 F0 HO0; have y0 : w1.cell? ⟨w.heap.size, 0, none⟩ = some _ := blk_cell HO1.out 0; have f0 := blk_frozen HO1.out 0)
  have HO1x := Aside0.mk (show (w1.setCell ⟨w.heap.size, 0, none⟩ (.int .i64 v0)).heap[w.heap.size]? = some (.cells #[.int .i64 v0, .int .i64 0, .int .i64 0, .int .i64 0, .int .i64 0, .int .i64 0, .int .i64 0, .string ⟨#[]⟩, .string ⟨#[]⟩, .slice none 0 0, .slice none 0 0] 25 (0, 0)) from set_blk HO1.out 0 (.int .i64 v0))
  have HR1x := Aside0.mk (show RD (w1.setCell ⟨w.heap.size, 0, none⟩ (.int .i64 v0)) g s p1 from keep_set HR1.out HGN.out 0 _)
  have F1x := Aside0.mk (FS.fresh F1.out 0 (.int .i64 v0))
  have HL1x := HL1
  clear HO1 HR1 F1 y0 f0
  generalize w1.setCell ⟨w.heap.size, 0, none⟩ (.int .i64 v0) = u1 at *
  have k0 : u1.cell? ⟨w.heap.size, 0, none⟩ = some (.int .i64 v0) := blk_cell HO1x.out 0
  go_upto_region 27 with (fail)
  clear k0
  obtain ⟨x0, f0, x1, f1, x2, f2, x3, f3, x4, f4, x5, f5, x6, f6, x7, f7, x8, f8, x9, f9, x10, f10⟩ := cellsF11 u1 (w.heap.size) HO1x.out
  have HB_ := HO1x; have HRR := HR1x; have FFF := F1x
  go_wp2
  refine bodyPost_ret (v := .agg #[.int .i64 v0, .int .i64 0, .int .i64 0, .int .i64 0, .int .i64 0, .int .i64 0, .int .i64 0, .string ⟨#[]⟩, .string ⟨#[]⟩, .slice none 0 0, .slice none 0 0]) (by simp [results, Try.results31, go_sem, x0, x1, x2, x3, x4, x5, x6, x7, x8, x9, x10]) rfl ?_
  show AfterX g w s p _ _
  unfold AfterX
  rw [show recR s p = some ((⟨v0, 0, 0, 0, 0, 0, 0, ⟨#[]⟩, ⟨#[]⟩, [], []⟩ : S25), p1) by rw [HE.out]; (try simp only [Option.bind_some])]
  refine ⟨_, _, rfl, Kd.R_nil _ _ _ _ _, Kd.R_nil _ _ _ _ _, ?_, ?_⟩
  · show RD _ g s p1
    repeat (first | (with_reducible refine RD.keep ?_ HGN.out _ _) | (with_reducible exact HRR.out))
  · repeat (first | (with_reducible refine FS.fresh ?_ _ _) | (with_reducible exact FFF.out))
end Go.Proofs.Ytcfknakmamcinaa.Wr
namespace Go.Proofs.Ytcfknakmamcinaa.Wr
open Go.Proofs.Ytcfknakmamcinaa.Rp Go.Proofs.Ytcfknakmamcinaa.X4
open Go Go.RowKit Go.ChangeMaps Go.Proofs.Ytcfknakmamcinaa.Arr Go.Proofs.Ytcfknakmamcinaa.Ow Go.Proofs.YtcfknakmamcinaaW.PrintWords Go.Proofs.YtcfknakmamcinaaW.PrintLast Go.Proofs.YtcfknakmamcinaaW.PrintMore
set_option linter.unusedVariables false
set_option linter.unusedSimpArgs false
theorem ap_ {P : Program} {ops : Array Oper} {Q : Exit → Act → World → Prop} {oi : Oper} {N : Option Tmp} {a : Act} {w w1 : World} {v : Value} {K : Act → World → Prop} (s x : Operand) (t : TypeId) (hw : Region.wanted oi (yielded ops a.tmps) = true) (hN : oi.dst = N)
    (ho : oi.op = .call { callee := .builtin .append, args := #[s, x], argTypes := #[t, t] }) (v1 v2 : Value) (hs : a.eval s = v1) (hx : a.eval x = v2) (hr : (Builtin.append_ #[t, t] oi.type #[v1, v2]).run P w = .ok v w1)
    (h : K (a.put N v) w1) : if Region.wanted oi (yielded ops a.tmps) = true then Oper.wp P oi a w K Q else K (a.put N undef) w := by
  refine value_ hw hN ?_ h
  unfold execOp
  simp only [ho, resolve, invoke, builtin, Sem.run_bind, Sem.run_pure, Result.andThen_ok, List.map_toArray, List.map_cons, List.map_nil, hs, hx, hr]
theorem ow_ne2 {w : World} {S S2 : Nat → Prop} {e e2 : TypeId} {sz sz2 : Nat} {v v2 : Value} {n n2 : Nat} {xs xs2 : List Value} (h : Ow w S e sz v n xs) (h2 : Ow w S2 e2 sz2 v2 n2 xs2) (ht : e2 ≠ e) : ∀ k, v.ownBlock = some k → v2.ownBlock ≠ some k := fun k hk e1 => by
  rcases h2.own.2 with ⟨rfl, _⟩ | ⟨g', cap, cur, rfl, _, hg, _⟩
  · cases e1
  · injection e1 with e1
    subst e1
    exact ow_ne h hg ht _ hk rfl
theorem Ow.far {w : World} {S : Nat → Prop} {e T : TypeId} {sz : Nat} {v : Value} {n : Nat} {xs : List Value} {o : Nat} {cs : Array Value} (h : Ow w S e sz v n xs) (hb : w.heap[o]? = some (.cells cs T (0, 0))) (hT : T ≠ e) (j : Nat) (u : Value) : Ow (w.setCell ⟨o, j, none⟩ u) S e sz v n xs :=
  h.same fun k hk => Below.heap_setCell w ⟨o, j, none⟩ u k (ow_ne h hb hT k hk)
theorem Ow.based {w : World} {S : Nat → Prop} {e : TypeId} {sz : Nat} {v : Value} {n : Nat} {xs : List Value} (h : Ow w S e sz v n xs) {B : Nat} (hB : ∀ k, S k → B ≤ k) : w.ownsRow B e sz v n xs := by
  refine ⟨h.own.1, ?_⟩
  rcases h.own.2 with h1 | ⟨g', cap, cur, rfl, _, r⟩
  · exact .inl h1
  · exact .inr ⟨g', cap, cur, rfl, hB g' (h.mem g' rfl), r⟩
theorem ow_fresh {w : World} {S : Nat → Prop} {e T : TypeId} {sz : Nat} {v : Value} {n : Nat} {xs : List Value} {o : Nat} (h : Ow w S e sz v n xs) (hT : T ≠ e) (j : Nat) (u : Value) (hb : ∃ cs, w.heap[o]? = some (.cells cs T (0, 0))) : Ow (w.setCell ⟨o, j, none⟩ u) S e sz v n xs := by
  obtain ⟨cs, hb⟩ := hb
  exact Wr.Ow.far h hb hT j u
theorem cells_kept {w : World} {T : TypeId} {o : Nat} (hb : ∃ cs, w.heap[o]? = some (.cells cs T (0, 0))) (j : Nat) (u : Value) : ∃ cs, (w.setCell ⟨o, j, none⟩ u).heap[o]? = some (.cells cs T (0, 0)) := by
  obtain ⟨cs, hb⟩ := hb
  exact ⟨_, set_blk hb j u⟩
abbrev From (B : Nat) : Nat → Prop := fun k => B ≤ k
def flatT (L : List S66) : List Value := L.flatMap fun x => [.int .i64 x.f0, .int .i64 x.f1, .int .i64 x.f2]
theorem infoT : (Try.prog.info? 66).map (fun i => (i.zero, i.size, i.bytes)) = some (some (.agg #[.int .i64 0, .int .i64 0, .int .i64 0]), 3, 24) := by kernel_rfl
theorem flatT_snoc (L : List S66) (x : S66) : flatT (L ++ [x]) = flatT L ++ [.int .i64 x.f0, .int .i64 x.f1, .int .i64 x.f2] := by unfold flatT; rw [List.flatMap_append]; rfl
theorem push_rowT {w : World} {S : Nat → Prop} {v : Value} (L : List S66) (x : S66) (h : Ow w S 66 3 v L.length (flatT L)) (hl : L.length ≤ 1000000) {nb : Nat} (hnb : w.heap[nb]? = some (.cells #[.int .i64 x.f0, .int .i64 x.f1, .int .i64 x.f2] 66 (0, 0))) (ty : TypeId) :
    ∃ v' w', (Builtin.append_ #[22, 22] ty #[v, .slice (some ⟨nb, 0, none⟩) 1 1]).run Try.prog w = .ok v' w' ∧ Ow w' (fun k => S k ∨ k = w.heap.size) 66 3 v' (L ++ [x]).length (flatT (L ++ [x])) ∧ w.grownBy w' v.ownBlock ∧ ∃ g' c', v' = .slice (some ⟨g', 0, none⟩) (L.length + 1) c' := by
  obtain ⟨i0, hi0, h2⟩ := Option.map_eq_some_iff.1 infoT
  have hz : i0.zero = some (.agg #[.int .i64 0, .int .i64 0, .int .i64 0]) := congrArg Prod.fst h2
  have hs : i0.size = 3 := congrArg (fun p => p.2.1) h2
  have hb : i0.bytes = 24 := congrArg (fun p => p.2.2) h2
  obtain ⟨v', w', r1, r2, r3, _, r5⟩ := run_append_ow (P := Try.prog) (ty := ty) 22 66 i0 _ 3 24 (by kernel_rfl) hi0 hz hs hb rfl (by decide) v L.length _ h ⟨nb, 0, none⟩ 1 1 [.int .i64 x.f0, .int .i64 x.f1, .int .i64 x.f2] rfl (fun j u hj => by
    rw [add_plain]
    exact (blk_cell hnb j).trans (by simpa using hj)) (fun u hu => by
    simp only [List.mem_cons, List.not_mem_nil, or_false] at hu
    rcases hu with rfl | rfl | rfl <;> rfl) (by simp only [maxLen]; omega) (by omega) (by decide)
  refine ⟨v', w', r1, ?_, r3, r5⟩
  rw [List.length_append, flatT_snoc]
  exact r2
theorem ow_RT {w : World} {S : Nat → Prop} {v : Value} {L : List S66} {B : Nat} (h : Ow w S 66 3 v L.length (flatT L)) (hB : ∀ k, S k → B ≤ k) : Kd.R k66 66 w B (fun _ => True) v L := by
  refine ⟨fun _ _ => trivial, flatT L, Wr.Ow.based h hB, ?_⟩
  have key : ∀ M : List S66, Reps (k66.M w B (fun k => True ∧ some k ≠ v.ownBlock)) 3 M.reverse (flatT M.reverse) := fun M => by
    induction M with
    | nil => exact Reps.none _ _
    | cons x t ih =>
      rw [List.reverse_cons, flatT_snoc]
      exact ih.snoc (k66_mkM _ _ _ x) rfl
  have := key L.reverse
  rwa [List.reverse_reverse] at this
theorem rowsT_none {s : ByteArray} {p k q n : Nat} {L : List S66} (h : rowsT s k p = some (L, q)) (h1 : rowT1 s q = none) (hk : k < n) : rowsT s n p = none := by
  induction n with
  | zero => omega
  | succ n ih =>
    simp only [rowsT]
    by_cases e : k = n
    · subst e
      rw [h]
      simp only [Option.bind_some, h1]
      rfl
    · rw [ih (by omega)]
      rfl
theorem rowsT_succ {s : ByteArray} {p k q : Nat} {L : List S66} {x : S66} {q2 : Nat} (h : rowsT s k p = some (L, q)) (h1 : rowT1 s q = some (x, q2)) : rowsT s (k + 1) p = some (L ++ [x], q2) := by
  simp only [rowsT, h, Option.bind_some, h1]
def flatQ (L : List S68) : List Value := L.flatMap fun x => [.int .i64 x.f0, .int .i64 x.f1]
theorem infoQ : (Try.prog.info? 68).map (fun i => (i.zero, i.size, i.bytes)) = some (some (.agg #[.int .i64 0, .int .i64 0]), 2, 16) := by kernel_rfl
theorem flatQ_snoc (L : List S68) (x : S68) : flatQ (L ++ [x]) = flatQ L ++ [.int .i64 x.f0, .int .i64 x.f1] := by unfold flatQ; rw [List.flatMap_append]; rfl
theorem push_rowQ {w : World} {S : Nat → Prop} {v : Value} (L : List S68) (x : S68) (h : Ow w S 68 2 v L.length (flatQ L)) (hl : L.length ≤ 1000000) {nb : Nat} (hnb : w.heap[nb]? = some (.cells #[.int .i64 x.f0, .int .i64 x.f1] 68 (0, 0))) (ty : TypeId) :
    ∃ v' w', (Builtin.append_ #[23, 23] ty #[v, .slice (some ⟨nb, 0, none⟩) 1 1]).run Try.prog w = .ok v' w' ∧ Ow w' (fun k => S k ∨ k = w.heap.size) 68 2 v' (L ++ [x]).length (flatQ (L ++ [x])) ∧ w.grownBy w' v.ownBlock ∧ ∃ g' c', v' = .slice (some ⟨g', 0, none⟩) (L.length + 1) c' := by
  obtain ⟨i0, hi0, h2⟩ := Option.map_eq_some_iff.1 infoQ
  have hz : i0.zero = some (.agg #[.int .i64 0, .int .i64 0]) := congrArg Prod.fst h2
  have hs : i0.size = 2 := congrArg (fun p => p.2.1) h2
  have hb : i0.bytes = 16 := congrArg (fun p => p.2.2) h2
  obtain ⟨v', w', r1, r2, r3, _, r5⟩ := run_append_ow (P := Try.prog) (ty := ty) 23 68 i0 _ 2 16 (by kernel_rfl) hi0 hz hs hb rfl (by decide) v L.length _ h ⟨nb, 0, none⟩ 1 1 [.int .i64 x.f0, .int .i64 x.f1] rfl (fun j u hj => by
    rw [add_plain]
    exact (blk_cell hnb j).trans (by simpa using hj)) (fun u hu => by
    simp only [List.mem_cons, List.not_mem_nil, or_false] at hu
    rcases hu with rfl | rfl <;> rfl) (by simp only [maxLen]; omega) (by omega) (by decide)
  refine ⟨v', w', r1, ?_, r3, r5⟩
  rw [List.length_append, flatQ_snoc]
  exact r2
theorem ow_RQ {w : World} {S : Nat → Prop} {v : Value} {L : List S68} {B : Nat} (h : Ow w S 68 2 v L.length (flatQ L)) (hB : ∀ k, S k → B ≤ k) : Kd.R k68 68 w B (fun _ => True) v L := by
  refine ⟨fun _ _ => trivial, flatQ L, Wr.Ow.based h hB, ?_⟩
  have key : ∀ M : List S68, Reps (k68.M w B (fun k => True ∧ some k ≠ v.ownBlock)) 2 M.reverse (flatQ M.reverse) := fun M => by
    induction M with
    | nil => exact Reps.none _ _
    | cons x t ih =>
      rw [List.reverse_cons, flatQ_snoc]
      exact ih.snoc (k68_mkM _ _ _ x) rfl
  have := key L.reverse
  rwa [List.reverse_reverse] at this
theorem rowsQ_none {s : ByteArray} {p k q n : Nat} {L : List S68} (h : rowsQ s k p = some (L, q)) (h1 : rowQ1 s q = none) (hk : k < n) : rowsQ s n p = none := by
  induction n with
  | zero => omega
  | succ n ih =>
    simp only [rowsQ]
    by_cases e : k = n
    · subst e
      rw [h]
      simp only [Option.bind_some, h1]
      rfl
    · rw [ih (by omega)]
      rfl
theorem rowsQ_succ {s : ByteArray} {p k q : Nat} {L : List S68} {x : S68} {q2 : Nat} (h : rowsQ s k p = some (L, q)) (h1 : rowQ1 s q = some (x, q2)) : rowsQ s (k + 1) p = some (L ++ [x], q2) := by
  simp only [rowsQ, h, Option.bind_some, h1]
end Go.Proofs.Ytcfknakmamcinaa.Wr
namespace Go.Proofs.Ytcfknakmamcinaa.Sa
open Go Go.RowKit Go.ChangeMaps Go.Proofs.Ytcfknakmamcinaa.Rp Go.Proofs.Ytcfknakmamcinaa.X4 Go.Proofs.YtcfknakmamcinaaW.PrintWords Go.Proofs.YtcfknakmamcinaaW.PrintLast Go.Proofs.YtcfknakmamcinaaW.PrintMore
set_option linter.unusedVariables false
set_option linter.unusedSimpArgs false
attribute [local go_sem high] eqA66 eqA68
set_option maxHeartbeats 4000000 in
set_option maxRecDepth 100000 in
theorem rsame_calls (a b : S25) (A9 : Option Addr) (c9 : Nat) (A10 : Option Addr) (c10 : Nat) (B9 : Option Addr) (d9 : Nat) (B10 : Option Addr) (d10 : Nat) (w : World)
    (h9 : Kd.C k66 w A9 a.f9.length a.f9) (h10 : Kd.C k68 w A10 a.f10.length a.f10) (g9 : Kd.C k66 w B9 b.f9.length b.f9) (g10 : Kd.C k68 w B10 b.f10.length b.f10) (s9 : a.f9.length ≤ 1000000) (s10 : a.f10.length ≤ 1000000) :
    Calls Try.prog 17 #[aggR a A9 c9 A10 c10, aggR b B9 d9 B10 d10] w fun e w' => e = .returned (.bool (decide (a = b))) ∧ Below w.heap.size w w' := by
  have hu := Try.underlying66; have hu2 := Try.underlying68
  have H9 := Aside0.mk h9; have H10 := Aside0.mk h10; have G9 := Aside0.mk g9; have G10 := Aside0.mk g10; have S9 := Aside0.mk s9; have S10 := Aside0.mk s10
  clear h9 h10 g9 g10 s9 s10
  by_cases h0 : a.f0 = b.f0
  rotate_left
  · have e0 : (a.f0 == b.f0) = false := by rw [beq_eq_false_iff_ne]; exact h0
    have n0 : (a.f0 != b.f0) = true := by rw [bne_iff_ne]; exact h0
    have HN := Aside0.mk (show decide (a = b) = false from decide_eq_false fun e => h0 (by rw [e]))
    clear h0
    go_enter Try.func17, Try.ntmps17
    go_wp2
    go_ret
    exact ⟨by rw [HN.out]; rfl, ((Below.refl w.heap.size w).alloc (Nat.le_refl _) _).alloc (by simp) _⟩
  have e0 : (a.f0 == b.f0) = true := by rw [beq_iff_eq, h0]
  have n0 : (a.f0 != b.f0) = false := by rw [bne_eq_false_iff_eq, h0]
  have Q0 := Aside0.mk h0; clear h0
  by_cases h1 : a.f1 = b.f1
  rotate_left
  · have e1 : (a.f1 == b.f1) = false := by rw [beq_eq_false_iff_ne]; exact h1
    have n1 : (a.f1 != b.f1) = true := by rw [bne_iff_ne]; exact h1
    have HN := Aside0.mk (show decide (a = b) = false from decide_eq_false fun e => h1 (by rw [e]))
    clear h1
    go_enter Try.func17, Try.ntmps17
    go_wp2
    go_ret
    exact ⟨by rw [HN.out]; rfl, ((Below.refl w.heap.size w).alloc (Nat.le_refl _) _).alloc (by simp) _⟩
  have e1 : (a.f1 == b.f1) = true := by rw [beq_iff_eq, h1]
  have n1 : (a.f1 != b.f1) = false := by rw [bne_eq_false_iff_eq, h1]
  have Q1 := Aside0.mk h1; clear h1
  by_cases h2 : a.f2 = b.f2
  rotate_left
  · have e2 : (a.f2 == b.f2) = false := by rw [beq_eq_false_iff_ne]; exact h2
    have n2 : (a.f2 != b.f2) = true := by rw [bne_iff_ne]; exact h2
    have HN := Aside0.mk (show decide (a = b) = false from decide_eq_false fun e => h2 (by rw [e]))
    clear h2
    go_enter Try.func17, Try.ntmps17
    go_wp2
    go_ret
    exact ⟨by rw [HN.out]; rfl, ((Below.refl w.heap.size w).alloc (Nat.le_refl _) _).alloc (by simp) _⟩
  have e2 : (a.f2 == b.f2) = true := by rw [beq_iff_eq, h2]
  have n2 : (a.f2 != b.f2) = false := by rw [bne_eq_false_iff_eq, h2]
  have Q2 := Aside0.mk h2; clear h2
  by_cases h3 : a.f3 = b.f3
  rotate_left
  · have e3 : (a.f3 == b.f3) = false := by rw [beq_eq_false_iff_ne]; exact h3
    have n3 : (a.f3 != b.f3) = true := by rw [bne_iff_ne]; exact h3
    have HN := Aside0.mk (show decide (a = b) = false from decide_eq_false fun e => h3 (by rw [e]))
    clear h3
    go_enter Try.func17, Try.ntmps17
    go_wp2
    go_ret
    exact ⟨by rw [HN.out]; rfl, ((Below.refl w.heap.size w).alloc (Nat.le_refl _) _).alloc (by simp) _⟩
  have e3 : (a.f3 == b.f3) = true := by rw [beq_iff_eq, h3]
  have n3 : (a.f3 != b.f3) = false := by rw [bne_eq_false_iff_eq, h3]
  have Q3 := Aside0.mk h3; clear h3
  by_cases h4 : a.f4 = b.f4
  rotate_left
  · have e4 : (a.f4 == b.f4) = false := by rw [beq_eq_false_iff_ne]; exact h4
    have n4 : (a.f4 != b.f4) = true := by rw [bne_iff_ne]; exact h4
    have HN := Aside0.mk (show decide (a = b) = false from decide_eq_false fun e => h4 (by rw [e]))
    clear h4
    go_enter Try.func17, Try.ntmps17
    go_wp2
    go_ret
    exact ⟨by rw [HN.out]; rfl, ((Below.refl w.heap.size w).alloc (Nat.le_refl _) _).alloc (by simp) _⟩
  have e4 : (a.f4 == b.f4) = true := by rw [beq_iff_eq, h4]
  have n4 : (a.f4 != b.f4) = false := by rw [bne_eq_false_iff_eq, h4]
  have Q4 := Aside0.mk h4; clear h4
  by_cases h5 : a.f5 = b.f5
  rotate_left
  · have e5 : (a.f5 == b.f5) = false := by rw [beq_eq_false_iff_ne]; exact h5
    have n5 : (a.f5 != b.f5) = true := by rw [bne_iff_ne]; exact h5
    have HN := Aside0.mk (show decide (a = b) = false from decide_eq_false fun e => h5 (by rw [e]))
    clear h5
    go_enter Try.func17, Try.ntmps17
    go_wp2
    go_ret
    exact ⟨by rw [HN.out]; rfl, ((Below.refl w.heap.size w).alloc (Nat.le_refl _) _).alloc (by simp) _⟩
  have e5 : (a.f5 == b.f5) = true := by rw [beq_iff_eq, h5]
  have n5 : (a.f5 != b.f5) = false := by rw [bne_eq_false_iff_eq, h5]
  have Q5 := Aside0.mk h5; clear h5
  by_cases h6 : a.f6 = b.f6
  rotate_left
  · have e6 : (a.f6 == b.f6) = false := by rw [beq_eq_false_iff_ne]; exact h6
    have n6 : (a.f6 != b.f6) = true := by rw [bne_iff_ne]; exact h6
    have HN := Aside0.mk (show decide (a = b) = false from decide_eq_false fun e => h6 (by rw [e]))
    clear h6
    go_enter Try.func17, Try.ntmps17
    go_wp2
    go_ret
    exact ⟨by rw [HN.out]; rfl, ((Below.refl w.heap.size w).alloc (Nat.le_refl _) _).alloc (by simp) _⟩
  have e6 : (a.f6 == b.f6) = true := by rw [beq_iff_eq, h6]
  have n6 : (a.f6 != b.f6) = false := by rw [bne_eq_false_iff_eq, h6]
  have Q6 := Aside0.mk h6; clear h6
  by_cases h7 : a.f7 = b.f7
  rotate_left
  · have e7 : (a.f7.toList == b.f7.toList) = false := by rw [beq_eq_false_iff_ne]; exact fun e => h7 ((toList_eq _ _).1 e)
    have n7 : (a.f7.toList != b.f7.toList) = true := by rw [bne_iff_ne]; exact fun e => h7 ((toList_eq _ _).1 e)
    have HN := Aside0.mk (show decide (a = b) = false from decide_eq_false fun e => h7 (by rw [e]))
    clear h7
    go_enter Try.func17, Try.ntmps17
    go_wp2
    go_ret
    exact ⟨by rw [HN.out]; rfl, ((Below.refl w.heap.size w).alloc (Nat.le_refl _) _).alloc (by simp) _⟩
  have e7 : (a.f7.toList == b.f7.toList) = true := by rw [beq_iff_eq, h7]
  have n7 : (a.f7.toList != b.f7.toList) = false := by rw [bne_eq_false_iff_eq, h7]
  have Q7 := Aside0.mk h7; clear h7
  by_cases h8 : a.f8 = b.f8
  rotate_left
  · have e8 : (a.f8.toList == b.f8.toList) = false := by rw [beq_eq_false_iff_ne]; exact fun e => h8 ((toList_eq _ _).1 e)
    have n8 : (a.f8.toList != b.f8.toList) = true := by rw [bne_iff_ne]; exact fun e => h8 ((toList_eq _ _).1 e)
    have HN := Aside0.mk (show decide (a = b) = false from decide_eq_false fun e => h8 (by rw [e]))
    clear h8
    go_enter Try.func17, Try.ntmps17
    go_wp2
    go_ret
    exact ⟨by rw [HN.out]; rfl, ((Below.refl w.heap.size w).alloc (Nat.le_refl _) _).alloc (by simp) _⟩
  have e8 : (a.f8.toList == b.f8.toList) = true := by rw [beq_iff_eq, h8]
  have n8 : (a.f8.toList != b.f8.toList) = false := by rw [bne_eq_false_iff_eq, h8]
  have Q8 := Aside0.mk h8; clear h8
  by_cases h9 : a.f9.length = b.f9.length
  rotate_left
  · have e9 : ((a.f9.length : Int) != (b.f9.length : Int)) = true := by rw [bne_iff_ne]; omega
    have n9 : (a.f9.length == b.f9.length) = false := by rw [beq_eq_false_iff_ne]; exact h9
    have HN := Aside0.mk (show decide (a = b) = false from decide_eq_false fun e => h9 (by rw [e]))
    clear h9
    go_enter Try.func17, Try.ntmps17
    go_wp2
    go_ret
    exact ⟨by rw [HN.out]; rfl, ((Below.refl w.heap.size w).alloc (Nat.le_refl _) _).alloc (by simp) _⟩
  have e9 : ((a.f9.length : Int) != (b.f9.length : Int)) = false := by rw [bne_eq_false_iff_eq]; omega
  have n9 : (a.f9.length == b.f9.length) = true := by rw [beq_iff_eq]; exact h9
  have HL9 := Aside0.mk h9; clear h9
  by_cases h10 : a.f10.length = b.f10.length
  rotate_left
  · have e10 : ((a.f10.length : Int) != (b.f10.length : Int)) = true := by rw [bne_iff_ne]; omega
    have n10 : (a.f10.length == b.f10.length) = false := by rw [beq_eq_false_iff_ne]; exact h10
    have HN := Aside0.mk (show decide (a = b) = false from decide_eq_false fun e => h10 (by rw [e]))
    clear h10
    go_enter Try.func17, Try.ntmps17
    go_wp2
    go_ret
    exact ⟨by rw [HN.out]; rfl, ((Below.refl w.heap.size w).alloc (Nat.le_refl _) _).alloc (by simp) _⟩
  have e10 : ((a.f10.length : Int) != (b.f10.length : Int)) = false := by rw [bne_eq_false_iff_eq]; omega
  have n10 : (a.f10.length == b.f10.length) = true := by rw [beq_iff_eq]; exact h10
  have HL10 := Aside0.mk h10; clear h10
  go_enter Try.func17, Try.ntmps17
  go_upto_region 4 with (fail)
  obtain ⟨W0, hW0, hB, hA_, hB_⟩ : ∃ W0, W0 = (w.alloc (.cells #[.int .i64 a.f0, .int .i64 a.f1, .int .i64 a.f2, .int .i64 a.f3, .int .i64 a.f4, .int .i64 a.f5, .int .i64 a.f6, .string a.f7, .string a.f8, .slice A9 a.f9.length c9, .slice A10 a.f10.length c10] 25)).alloc (.cells #[.int .i64 b.f0, .int .i64 b.f1, .int .i64 b.f2, .int .i64 b.f3, .int .i64 b.f4, .int .i64 b.f5, .int .i64 b.f6, .string b.f7, .string b.f8, .slice B9 b.f9.length d9, .slice B10 b.f10.length d10] 25) ∧ Below w.heap.size w W0 ∧ W0.heap[w.heap.size]? = some (.cells #[.int .i64 a.f0, .int .i64 a.f1, .int .i64 a.f2, .int .i64 a.f3, .int .i64 a.f4, .int .i64 a.f5, .int .i64 a.f6, .string a.f7, .string a.f8, .slice A9 a.f9.length c9, .slice A10 a.f10.length c10] 25 (0, 0)) ∧ W0.heap[w.heap.size + 1]? = some (.cells #[.int .i64 b.f0, .int .i64 b.f1, .int .i64 b.f2, .int .i64 b.f3, .int .i64 b.f4, .int .i64 b.f5, .int .i64 b.f6, .string b.f7, .string b.f8, .slice B9 b.f9.length d9, .slice B10 b.f10.length d10] 25 (0, 0)) := ⟨_, rfl, ((Below.refl w.heap.size w).alloc (Nat.le_refl _) _).alloc (by simp) _, (two_below (Below.refl _ _)).1, (two_below (Below.refl _ _)).2⟩
  rw [← hW0]
  clear hW0 e0 n0 e1 n1 e2 n2 e3 n3 e4 n4 e5 n5 e6 n6 e7 n7 e8 n8 e9 n9 e10 n10
  have HB := Aside0.mk hB
  have C9 := Aside0.mk (Kd.C_below H9.out hB); have C10 := Aside0.mk (Kd.C_below H10.out hB); have D9 := Aside0.mk (Kd.C_below G9.out hB); have D10 := Aside0.mk (Kd.C_below G10.out hB)
  have q9 : W0.cell? ⟨w.heap.size, 9, none⟩ = some (.slice A9 a.f9.length c9) := blk_cell hA_ 9
  have q10 : W0.cell? ⟨w.heap.size, 10, none⟩ = some (.slice A10 a.f10.length c10) := blk_cell hA_ 10
  have p9 : W0.cell? ⟨w.heap.size + 1, 9, none⟩ = some (.slice B9 b.f9.length d9) := blk_cell hB_ 9
  have p10 : W0.cell? ⟨w.heap.size + 1, 10, none⟩ = some (.slice B10 b.f10.length d10) := blk_cell hB_ 10
  clear hB hA_ hB_
  go_loopw [5] (fun v wr => ∃ k : Nat, v = .int .i64 k ∧ Aside0 (k ≤ a.f9.length) ∧ Aside0 (a.f9.take k = b.f9.take k) ∧ Aside0 (∃ m, wr = W0.drewN m)) (fun v _ => a.f9.length - (intOf v).toNat)
  case atStart => exact ⟨0, rfl, ⟨Nat.zero_le _⟩, ⟨rfl⟩, ⟨⟨0, rfl⟩⟩⟩
  case round =>
    obtain ⟨k, rfl, K, HT, HW⟩ := hrel
    obtain ⟨m, rfl⟩ := HW.out
    by_cases hlt : k < a.f9.length
    · have h1 : (k : Int) < (a.f9.length : Int) := by omega
      have h1b : (k : Int) < (b.f9.length : Int) := by have := HL9.out; omega
      have h2 : (0 : Int) ≤ (k : Int) := by omega
      have hly : k < b.f9.length := by have := HL9.out; omega
      have hwk : wrap64 ((k : Int) + 1) = ((k + 1 : Nat) : Int) := by have := S9.out; unfold wrap64; omega
      obtain ⟨ad, e_, x0, x1, x2⟩ := at_T66 C9.out k h2 h1
      obtain ⟨bd, e2_, y0, y1, y2⟩ := at_T66 D9.out k h2 h1b
      have hX : a.f9[k]? = some (rd_T66 a.f9 k) := by unfold rd_T66; rw [Int.toNat_natCast, List.getD_eq_getElem?_getD, List.getElem?_eq_getElem (by omega)]; rfl
      have hY : b.f9[k]? = some (rd_T66 b.f9 k) := by unfold rd_T66; rw [Int.toNat_natCast, List.getD_eq_getElem?_getD, List.getElem?_eq_getElem (by omega)]; rfl
      have HX := Aside0.mk hX; have HY := Aside0.mk hY; clear hX hY
      simp only [Int.toNat_natCast] at x0 x1 x2 y0 y1 y2
      subst e_; subst e2_
      generalize rd_T66 a.f9 k = x at *
      generalize rd_T66 b.f9 k = y at *
      have HLT := Aside0.mk hlt
      by_cases hxy : x = y
      · have n1 : (!(x.f0 == y.f0) || (!(x.f1 == y.f1) || (!(x.f2 == y.f2)))) = false := (neT_iff x y).2 hxy
        have HXY := Aside0.mk hxy; clear hxy hlt
        go_wp2
        go_quiet (fail)
        go_wp2
        (try simp only [hwk])
        refine ⟨⟨k + 1, rfl, ⟨HLT.out⟩, ⟨take_eqT HT.out HX.out (by rw [HXY.out]; exact HY.out)⟩, ⟨⟨_, rfl⟩⟩⟩, ?_⟩
        have := HLT.out
        show a.f9.length - (intOf (.int .i64 ((k + 1 : Nat) : Int))).toNat < a.f9.length - (intOf (.int .i64 (k : Int))).toNat
        simp only [intOf]; omega
      · have n1 : (!(x.f0 == y.f0) || (!(x.f1 == y.f1) || (!(x.f2 == y.f2)))) = true := by rw [← Bool.not_eq_false, neT_iff]; exact hxy
        have HN := Aside0.mk (show decide (a = b) = false from decide_eq_false fun e => take_neT HX.out HY.out hxy (by rw [e]))
        clear hxy hlt
        go_wp2
        go_quiet (fail)
        go_wp2
        go_ret
        exact ⟨by rw [HN.out]; rfl, pw_below_drewN (pw_below_drewN HB.out _) _⟩
    · obtain rfl : k = a.f9.length := by have := K.out; omega
      have HQ9 := Aside0.mk (show a.f9 = b.f9 by have h := HT.out; rwa [List.take_length, HL9.out, List.take_length] at h)
      clear hlt
      go_upto_region 9 with (fail)
      go_loopw [6] (fun v wr => ∃ k : Nat, v = .int .i64 k ∧ Aside0 (k ≤ a.f10.length) ∧ Aside0 (a.f10.take k = b.f10.take k) ∧ Aside0 (∃ m, wr = W0.drewN m)) (fun v _ => a.f10.length - (intOf v).toNat)
      case atStart => exact ⟨0, rfl, ⟨Nat.zero_le _⟩, ⟨rfl⟩, ⟨⟨_, rfl⟩⟩⟩
      case round =>
        obtain ⟨k, rfl, K, HT, HW⟩ := hrel
        obtain ⟨m, rfl⟩ := HW.out
        by_cases hlt : k < a.f10.length
        · have h1 : (k : Int) < (a.f10.length : Int) := by omega
          have h1b : (k : Int) < (b.f10.length : Int) := by have := HL10.out; omega
          have h2 : (0 : Int) ≤ (k : Int) := by omega
          have hly : k < b.f10.length := by have := HL10.out; omega
          have hwk : wrap64 ((k : Int) + 1) = ((k + 1 : Nat) : Int) := by have := S10.out; unfold wrap64; omega
          obtain ⟨ad, e_, x0, x1⟩ := at_T68 C10.out k h2 h1
          obtain ⟨bd, e2_, y0, y1⟩ := at_T68 D10.out k h2 h1b
          have hX : a.f10[k]? = some (rd_T68 a.f10 k) := by unfold rd_T68; rw [Int.toNat_natCast, List.getD_eq_getElem?_getD, List.getElem?_eq_getElem (by omega)]; rfl
          have hY : b.f10[k]? = some (rd_T68 b.f10 k) := by unfold rd_T68; rw [Int.toNat_natCast, List.getD_eq_getElem?_getD, List.getElem?_eq_getElem (by omega)]; rfl
          have HX := Aside0.mk hX; have HY := Aside0.mk hY; clear hX hY
          simp only [Int.toNat_natCast] at x0 x1 y0 y1
          subst e_; subst e2_
          generalize rd_T68 a.f10 k = x at *
          generalize rd_T68 b.f10 k = y at *
          have HLT := Aside0.mk hlt
          by_cases hxy : x = y
          · have n1 : (!(x.f0 == y.f0) || (!(x.f1 == y.f1))) = false := (neQ_iff x y).2 hxy
            have HXY := Aside0.mk hxy; clear hxy hlt
            go_wp2
            go_quiet (fail)
            go_wp2
            (try simp only [hwk])
            refine ⟨⟨k + 1, rfl, ⟨HLT.out⟩, ⟨take_eqQ HT.out HX.out (by rw [HXY.out]; exact HY.out)⟩, ⟨⟨_, rfl⟩⟩⟩, ?_⟩
            have := HLT.out
            show a.f10.length - (intOf (.int .i64 ((k + 1 : Nat) : Int))).toNat < a.f10.length - (intOf (.int .i64 (k : Int))).toNat
            simp only [intOf]; omega
          · have n1 : (!(x.f0 == y.f0) || (!(x.f1 == y.f1))) = true := by rw [← Bool.not_eq_false, neQ_iff]; exact hxy
            have HN := Aside0.mk (show decide (a = b) = false from decide_eq_false fun e => take_neQ HX.out HY.out hxy (by rw [e]))
            clear hxy hlt
            go_wp2
            go_quiet (fail)
            go_wp2
            go_ret
            exact ⟨by rw [HN.out]; rfl, pw_below_drewN (pw_below_drewN HB.out _) _⟩
        · obtain rfl : k = a.f10.length := by have := K.out; omega
          have HQ10 := Aside0.mk (show a.f10 = b.f10 by have h := HT.out; rwa [List.take_length, HL10.out, List.take_length] at h)
          clear hlt
          have HN := Aside0.mk (show decide (a = b) = true from decide_eq_true (by obtain ⟨a0, a1, a2, a3, a4, a5, a6, a7, a8, a9, a10⟩ := a; obtain ⟨b0, b1, b2, b3, b4, b5, b6, b7, b8, b9, b10⟩ := b; have := Q0.out; have := Q1.out; have := Q2.out; have := Q3.out; have := Q4.out; have := Q5.out; have := Q6.out; have := Q7.out; have := Q8.out; have := HQ9.out; have := HQ10.out; simp_all))
          go_wp2
          go_ret
          exact ⟨by rw [HN.out]; rfl, pw_below_drewN HB.out _⟩
end Go.Proofs.Ytcfknakmamcinaa.Sa
namespace Go.Proofs.Ytcfknakmamcinaa.Opens
open Go Go.RowKit Go.ChangeShapes Go.WideShapes Go.Deep Go.Proofs.YtcfknakmamcinaaW.PrintWords
set_option linter.unusedVariables false
variable {P : Program}
/-- Whatever reads as data at type t is a value of kind d that meets Wf. -/
def Opens (P : Program) (t : TypeId) {α : Type} (d : Kd α) (Wf : α → Prop) : Prop :=
  ∀ {H : Type} {enc : TypeId × Value → H} {w : World} {fuel : Nat} {cs : List Value} {x : DataW H × List MemPlace},
    DataW.trod enc P w 0 (fun _ => true) true fuel t cs = some x → (∀ n ∈ DataW.weights P t x.1, n ≤ reachBytes) → ∃ v : α, d.K w v cs ∧ Wf v
theorem opens_int {t : TypeId} {k : IntKind} (ht : P.underlying t = some (.int k)) : Opens P t (Kd.int k) (fun n => (Lit.int k n).wf = true) := by
  intro H enc w fuel cs x h _
  obtain ⟨n, rfl, _, hw⟩ := DataW.trod_int ht h
  exact ⟨n, rfl, hw⟩
theorem opens_string {t : TypeId} (ht : P.underlying t = some .string) : Opens P t Kd.string (fun s => s.size ≤ 140737488351232) := by
  intro H enc w fuel cs x h hw
  obtain ⟨s, rfl, rfl, _⟩ := DataW.trod_string ht h
  refine ⟨s, rfl, ?_⟩
  have := hw s.data.toList.length (by simp [DataW.weights])
  simpa [reachBytes] using this
end Go.Proofs.Ytcfknakmamcinaa.Opens
