import Derived.Deep.QuietTactic
import Derived.BigQuiet
import Derived.WalkKit
import Derived.ProofKit
import Derived.OpenShut
import Derived.ChangeOld
import Derived.Below
import Derived.SizedLaws
import Derived.Deep.Slices
import Derived.Deep.Fields
import Derived.ChangeSame
import Derived.Test.YtbnglmeljbiglaaQGZ0
import Derived.Test.YtbnglmeljbiglaaQGZ1
import Derived.Test.YtbnglmeljbiglaaQGZ2
import Derived.Test.YtbnglmeljbiglaaQGZ3
import Derived.Test.YtbnglmeljbiglaaQGZ4
set_option maxRecDepth 8192
namespace Go.Proofs.Ytbnglmeljbiglaa.X12
open Go Go.RowKit Go.Proofs.YtbnglmeljbiglaaW.PrintWords Go.Proofs.Ytbnglmeljbiglaa.Slab
set_option linter.unusedVariables false
/-- A text's bytes as a list. -/
def bl (s : ByteArray) : List UInt8 := s.data.toList
theorem bl_len (s : ByteArray) : (bl s).length = s.size := by simp [bl]
theorem bl_ext {s t : ByteArray} (h : bl s = bl t) : s = t := ByteArray.ext (Array.toList_inj.1 h)
theorem bl_cut (s : ByteArray) (a b : Nat) : bl (s.extract a b) = ((bl s).drop a).take (b - a) := by simp [bl]
theorem bt_bl (s : ByteArray) (j : Nat) (h : j < s.size) : bt s (j : Int) = (((bl s).getD j 0).toNat : Int) := by
  have h1 : j < (bl s).length := by rw [bl_len]; exact h
  unfold bt
  rw [dif_pos (by simpa using h), List.getD_eq_getElem?_getD, List.getElem?_eq_getElem h1]
  simp [bl, ByteArray.getElem_eq_getElem_data]
theorem w64 {x : Int} (h0 : -9223372036854775808 ≤ x) (h1 : x ≤ 9223372036854775807) : wrap64 x = x := by unfold wrap64; omega
theorem or64 (x y : Int) (h0 : 0 ≤ x) (h1 : x < 16777216) (h2 : 0 ≤ y) (h3 : y < 256) : bits .or .i64 (x * 256) y = x * 256 + y :=
  bits_join .i64 40 (by decide) (fun n a b => by rw [IntKind.wrap_i64]; omega) 8 (x * 256) y (by omega) (by omega) (by omega) h2 (by omega) (by omega)
theorem or32 (x y : Int) (h0 : 0 ≤ x) (h1 : x < 16777216) (h2 : 0 ≤ y) (h3 : y < 256) : bits .or .u32 (x * 256 % 4294967296) (y % 4294967296) = x * 256 + y := by
  rw [show x * 256 % 4294967296 = x * 256 by omega, show y % 4294967296 = y by omega]
  exact bits_join .u32 32 (by decide) (fun n a b => by rw [IntKind.wrap_u32]; omega) 8 (x * 256) y (by omega) (by omega) (by omega) h2 (by omega) (by omega)
/-- Four bytes as a number, the highest first. -/
def numB (s : ByteArray) : Int := ((bt s 0 * 256 + bt s 1) * 256 + bt s 2) * 256 + bt s 3
theorem numB_range (s : ByteArray) : 0 ≤ numB s ∧ numB s < 4294967296 := by
  have a := bt_range s 0; have b := bt_range s 1; have c := bt_range s 2; have d := bt_range s 3
  unfold numB; omega
theorem get_eq (k : Nat) (s : ByteArray) (h : 4 ≤ s.size) : slab_get.f (k + 5) s = some (numB s) := by
  unfold slab_get.f
  have a := bt_range s 0; have b := bt_range s 1; have c := bt_range s 2; have d := bt_range s 3
  have e0 : bits .or .u32 (0 * 256 % 4294967296) (bt s 0 % 4294967296) = bt s 0 := by
    rw [or32 0 _ (by omega) (by omega) (by omega) (by omega)]; omega
  have e1 := or32 (bt s 0) (bt s 1) (by omega) (by omega) (by omega) (by omega)
  have e2 := or32 (bt s 0 * 256 + bt s 1) (bt s 2) (by omega) (by omega) (by omega) (by omega)
  have e3 := or32 ((bt s 0 * 256 + bt s 1) * 256 + bt s 2) (bt s 3) (by omega) (by omega) (by omega) (by omega)
  have i1 : wrap64 (0 + 1) = 1 := by unfold wrap64; omega
  have i2 : wrap64 (1 + 1) = 2 := by unfold wrap64; omega
  have i3 : wrap64 (2 + 1) = 3 := by unfold wrap64; omega
  have i4 : wrap64 (3 + 1) = 4 := by unfold wrap64; omega
  rw [slab_get.l0, if_pos (by omega), if_pos (by omega), if_pos (by omega), i1, e0]
  rw [slab_get.l0, if_pos (by omega), if_pos (by omega), if_pos (by omega), i2, e1]
  rw [slab_get.l0, if_pos (by omega), if_pos (by omega), if_pos (by omega), i3, e2]
  rw [slab_get.l0, if_pos (by omega), if_pos (by omega), if_pos (by omega), i4, e3]
  rw [slab_get.l0, if_neg (by omega)]
  rfl
theorem numB_bl (s : ByteArray) (h : 4 ≤ s.size) : numB s = num4 ((bl s).getD 0 0) ((bl s).getD 1 0) ((bl s).getD 2 0) ((bl s).getD 3 0) := by
  have a := bt_bl s 0 (by omega); have b := bt_bl s 1 (by omega); have c := bt_bl s 2 (by omega); have d := bt_bl s 3 (by omega)
  unfold numB num4
  rw [show bt s 0 = _ from a, show bt s 1 = _ from b, show bt s 2 = _ from c, show bt s 3 = _ from d]
  omega
theorem of_n32 (a : Int) (h : 0 ≤ a ∧ a < 4294967296) : n32 (BitVec.ofInt 32 a) = a := by
  unfold n32
  rw [BitVec.toNat_ofInt]
  omega
/-- Pack, with its numbers as they are. -/
def packI (e i : Int) (b : ByteArray) : ByteArray × Int := packF (BitVec.ofInt 32 e) (BitVec.ofInt 32 i) b
theorem pack_eq (e i : Int) (b : ByteArray) (he : 0 ≤ e ∧ e < 4294967296) (hi : 0 ≤ i ∧ i < 4294967296) : slab_Pack.f e i b = some (packI e i b) := by
  unfold slab_Pack.f packI
  rw [if_pos ⟨he, hi⟩]
theorem packI_bl (e i : Int) (b : ByteArray) (he : 0 ≤ e ∧ e < 4294967296) (hi : 0 ≤ i ∧ i < 4294967296) (hb : b.size ≤ 112) : bl (packI e i b).1 = secL e i (bl b) ∧ (packI e i b).2 = 0 := by
  unfold packI packF
  rw [if_pos hb]
  refine ⟨?_, rfl⟩
  have := sector_list (BitVec.ofInt 32 e) (BitVec.ofInt 32 i) b hb
  rw [of_n32 e he, of_n32 i hi] at this
  exact this
/-- How long a sector's body is. -/
def lenS (s : ByteArray) : Int := bt s 8 * 256 + bt s 9
def cutB (s : ByteArray) : ByteArray := s.extract 12 (12 + (lenS s).toNat)
def nE (s : ByteArray) : Int := numB s
def nI (s : ByteArray) : Int := numB (s.extract 4 s.size)
/-- It is the sector of what it tells. -/
def isSec (s : ByteArray) : Prop := s.size = 128 ∧ lenS s ≤ 112 ∧ secL (nE s) (nI s) (bl (cutB s)) = bl s
instance (s : ByteArray) : Decidable (isSec s) := by unfold isSec; infer_instance
def unpackF (s : ByteArray) : Int × Int × ByteArray × Int := if isSec s then (nE s, nI s, cutB s, 0) else (0, 0, ⟨#[]⟩, 8)
theorem lenS_range (s : ByteArray) : 0 ≤ lenS s ∧ lenS s ≤ 65535 := by
  have a := bt_range s 8; have b := bt_range s 9
  unfold lenS; omega
theorem cutB_size (s : ByteArray) (h : s.size = 128) (hl : lenS s ≤ 112) : ((cutB s).size : Int) = lenS s := by
  have := lenS_range s
  unfold cutB
  rw [ByteArray.size_extract]; omega
theorem loop_bl (s : ByteArray) : ∀ (d i : Nat) (r : List UInt8), i + d = s.size → ByteArray.toList.loop s i r = r.reverse ++ (bl s).drop i := by
  intro d
  induction d with
  | zero =>
    intro i r h
    rw [ByteArray.toList.loop, if_neg (by omega), List.drop_of_length_le (by rw [bl_len]; omega), List.append_nil]
  | succ d ih =>
    intro i r h
    have hi : i < s.size := by omega
    have hl : i < (bl s).length := by rw [bl_len]; exact hi
    rw [ByteArray.toList.loop, if_pos hi, ih (i + 1) _ (by omega), List.drop_eq_getElem_cons hl, List.reverse_cons, List.append_assoc]
    have e : s.get! i = (bl s)[i] := by
      show s.data[i]! = s.data.toList[i]
      have hd : i < s.data.size := hi
      rw [getElem!_pos s.data i hd]
      exact (Array.getElem_toList hd).symm
    rw [e]
    rfl
theorem toList_bl (s : ByteArray) : s.toList = bl s := by
  show ByteArray.toList.loop s 0 [] = _
  rw [loop_bl s s.size 0 [] (by omega)]
  rfl
theorem unpack_eq (k : Nat) (s : ByteArray) : slab_Unpack.f (k + 5) s = some (unpackF s) := by
  unfold slab_Unpack.f unpackF
  by_cases hs : s.size = 128
  · have a := bt_range s 8; have b := bt_range s 9
    have hL := lenS_range s
    have hl : bits .or .i64 (wrap64 ((wrap64 (bt s 8)) * 256)) (wrap64 (bt s 9)) = lenS s := by
      rw [w64 (x := bt s 8) (by omega) (by omega), w64 (x := bt s 9) (by omega) (by omega), w64 (by omega) (by omega), or64 _ _ (by omega) (by omega) (by omega) (by omega)]
      rfl
    rw [if_pos (by omega), if_pos (by omega), if_pos (by omega), hl]
    by_cases h1 : lenS s > 112
    · rw [if_pos h1, if_neg (fun q => by have := q.2.1; omega)]
    · have hw : wrap64 (12 + lenS s) = 12 + lenS s := w64 (by omega) (by omega)
      have h4 : 4 ≤ (s.extract 4 s.size).size := by rw [ByteArray.size_extract]; omega
      have e1 : (12 + lenS s).toNat = 12 + (lenS s).toNat := by omega
      rw [if_neg h1, get_eq k s (by omega)]
      simp only [Option.bind_some]
      rw [if_pos (by omega), get_eq k _ h4]
      simp only [Option.bind_some]
      rw [hw, if_pos (by omega), if_pos (by omega), e1, pack_eq _ _ _ (numB_range _) (numB_range _)]
      simp only [Option.bind_some]
      have hcz := cutB_size s hs (by omega)
      have hP := packI_bl (numB s) (numB (s.extract 4 s.size)) (cutB s) (numB_range _) (numB_range _) (by omega)
      rw [toList_bl, toList_bl]
      show (if bl (packI (numB s) (numB (s.extract 4 s.size)) (cutB s)).1 = bl s then _ else _) = _
      rw [hP.1]
      by_cases q : secL (numB s) (numB (s.extract 4 s.size)) (bl (cutB s)) = bl s
      · rw [if_pos q, if_pos ⟨hs, by omega, q⟩]; rfl
      · rw [if_neg q, if_neg (fun z => q z.2.2)]
  · rw [if_neg (by omega), if_neg (fun q => hs q.1)]
theorem getD_cut (l : List UInt8) (a n j : Nat) (h : j < n) : ((l.drop a).take n).getD j 0 = l.getD (a + j) 0 := by
  rw [List.getD_eq_getElem?_getD, List.getD_eq_getElem?_getD, List.getElem?_take_of_lt h, List.getElem?_drop]
theorem numB_cut (s : ByteArray) (a b : Nat) (h : a + 4 ≤ b) (hb : b ≤ s.size) : numB (s.extract a b) = num4 ((bl s).getD a 0) ((bl s).getD (a + 1) 0) ((bl s).getD (a + 2) 0) ((bl s).getD (a + 3) 0) := by
  rw [numB_bl _ (by rw [ByteArray.size_extract]; omega), bl_cut, getD_cut _ _ _ _ (by omega), getD_cut _ _ _ _ (by omega), getD_cut _ _ _ _ (by omega), getD_cut _ _ _ _ (by omega)]
  rfl
theorem unpack_sec (e i : Int) (b s : ByteArray) (he : 0 ≤ e ∧ e < 4294967296) (hi : 0 ≤ i ∧ i < 4294967296) (hb : b.size ≤ 112) (h : bl s = secL e i (bl b)) : unpackF s = (e, i, b, 0) := by
  have hbl : (bl b).length ≤ 112 := by rw [bl_len]; exact hb
  have hs : s.size = 128 := by rw [← bl_len, h, secL_len e i _ hbl]
  have r := read_sec e i (bl b) he hi hbl
  rw [← h] at r
  unfold readL at r
  simp only [Prod.mk.injEq] at r
  have g8 : (bl s).getD 8 0 = 0 := by
    rw [h]; rfl
  have g9 : (bl s).getD 9 0 = UInt8.ofNat (bl b).length := by
    rw [h]; rfl
  have t8 := bt_bl s 8 (by omega)
  have t9 := bt_bl s 9 (by omega)
  rw [g8] at t8
  rw [g9, bl_len, UInt8.toNat_ofNat'] at t9
  have hL : lenS s = b.size := by
    unfold lenS
    rw [show bt s 8 = _ from t8, show bt s 9 = _ from t9]
    simp; omega
  have eE : nE s = e := by unfold nE; rw [numB_bl s (by omega)]; exact r.1
  have eI : nI s = i := by unfold nI; rw [numB_cut s 4 s.size (by omega) (by omega)]; exact r.2.1
  have eB : cutB s = b := by
    apply bl_ext
    unfold cutB
    rw [bl_cut, hL]
    have q := r.2.2
    rw [g9, bl_len, UInt8.toNat_ofNat', show b.size % 2 ^ 8 = b.size by omega] at q
    rw [show 12 + (b.size : Int).toNat - 12 = b.size by omega]
    exact q
  have hS : isSec s := ⟨hs, by omega, by rw [eE, eI, eB, h]⟩
  unfold unpackF
  rw [if_pos hS, eE, eI, eB]
theorem unpack_calls (s : ByteArray) (w : World) : Calls Try.prog 72 #[.string s] w fun e w' => e = .returned (.tuple #[.agg #[.int .u32 (unpackF s).1, .int .u32 (unpackF s).2.1, .string (unpackF s).2.2.1], .int .i64 (unpackF s).2.2.2]) ∧ Below w.heap.size w w' :=
  slab_Unpack.calls 5 s _ _ _ _ w (unpack_eq 0 s)
theorem pack_calls (e i : Int) (b : ByteArray) (he : 0 ≤ e ∧ e < 4294967296) (hi : 0 ≤ i ∧ i < 4294967296) (w : World) : Calls Try.prog 47 #[.agg #[.int .u32 e, .int .u32 i, .string b]] w fun f w' => f = .returned (.tuple #[.string (packI e i b).1, .int .i64 (packI e i b).2]) ∧ Below w.heap.size w w' :=
  slab_Pack.calls e i b _ _ w (pack_eq e i b he hi)
/-- What was packed is told again. -/
theorem unpack_pack (e i : Int) (b : ByteArray) (he : 0 ≤ e ∧ e < 4294967296) (hi : 0 ≤ i ∧ i < 4294967296) (hb : b.size ≤ 112) : unpackF (packI e i b).1 = (e, i, b, 0) := unpack_sec e i b _ he hi hb (packI_bl e i b he hi hb).1
end Go.Proofs.Ytbnglmeljbiglaa.X12
set_option maxRecDepth 8192
namespace Go.Proofs.Ytbnglmeljbiglaa.Wl
open Go Go.RowKit Go.ChangeMaps Go.Proofs.Ytbnglmeljbiglaa.Arr Go.Proofs.Ytbnglmeljbiglaa.Mp Go.Proofs.Ytbnglmeljbiglaa.Ow Go.Proofs.Ytbnglmeljbiglaa.Dk Go.Proofs.Ytbnglmeljbiglaa.Fr Go.Proofs.YtbnglmeljbiglaaW.PrintWords Go.Proofs.YtbnglmeljbiglaaW.PrintLast Go.Proofs.YtbnglmeljbiglaaW.PrintMore
set_option linter.unusedVariables false
set_option linter.unusedSimpArgs false
theorem set_blk {w : World} {g : Nat} {cs : Array Value} {t : TypeId} {fr : Nat × Nat} (h : w.heap[g]? = some (.cells cs t fr)) (i : Nat) (u : Value) : (w.setCell ⟨g, i, none⟩ u).heap[g]? = some (.cells (cs.setIfInBounds i u) t fr) := by
  simp only [World.setCell]
  rw [Array.getElem?_modify, if_pos rfl, h]
  rfl
theorem empty_iff (b : ByteArray) : b.toList.isEmpty = decide (b = ⟨#[]⟩) := by
  rw [X12.toList_bl]
  cases h : decide (b = ⟨#[]⟩) with
  | true => rw [decide_eq_true_iff] at h; subst h; rfl
  | false =>
    rw [decide_eq_false_iff_not] at h
    rw [List.isEmpty_eq_false_iff]
    intro e
    exact h (X12.bl_ext (e.trans rfl))
theorem below_setBlock {B m : Nat} {w w1 : World} (h : Below B w w1) (hm : B ≤ m) (o : Obj) : Below B w (setBlock w1 m o) :=
  ⟨h.os, h.tape, h.output, by rw [setBlock_size]; exact h.size, fun k hk => (setBlock_other w1 m o (by omega)).trans (h.block k hk)⟩
abbrev TLg : TypeId := 91
/-- What a log holds, beside its disk. -/
structure WS where
  base : Int
  n : Int
  low : Int
  first : Int
  op : Int
  ep : Int
  f : Int → Option ByteArray
/-- The body of a sector. -/
abbrev bdy (W : WS) (i : Int) : ByteArray := (W.f i).getD ⟨#[]⟩
def LB (w : World) (gl g m : Nat) (W : WS) : Prop := w.heap[gl]? = some (.cells #[.pointer (some ⟨g, 0, none⟩), .int .i64 W.base, .int .i64 W.n, .int .i64 W.low, .int .i64 W.first, .int .i64 W.op, .int .u32 W.ep, .map (some m)] TLg (0, 0))
/-- A log: its own blocks are of colour 3. -/
structure LO (w : World) (c : Nat → Nat) (gl m : Nat) (g : Nat) (W : WS) : Prop where
  blk : LB w gl g m W
  map : MP w m W.f
  cl : c gl = 3
  cm : c m = 3
section
variable {M : List Nat} {w w' w0 : World} {c c' : Nat → Nat} {gl m g : Nat} {W : WS} {d d' : DS}
theorem LO.lt (h : LO w c gl m g W) : gl < w.heap.size := blk_lt' h.blk
theorem LO.keep (h : LO w c gl m g W) (hf : Fr M w c w' c') (h3 : 3 ∉ M) : LO w' c' gl m g W :=
  ⟨(hf.blk gl h.lt (by rw [h.cl]; exact h3)).trans h.blk, h.map.same (hf.blk m h.map.lt (by rw [h.cm]; exact h3)), (hf.col gl h.lt).trans h.cl, (hf.col m h.map.lt).trans h.cm⟩
theorem LO.below (h : LO w c gl m g W) (hb : Below w.heap.size w w') : LO w' c gl m g W := h.keep (Fr.of_below (M := []) hb) (by simp)
theorem LO.drew (h : LO w c gl m g W) : LO w.drew c gl m g W := h.below ((Below.refl _ _).drew)
theorem LO.c0 (h : LO w c gl m g W) : w.cell? ⟨gl, 0, none⟩ = some (.pointer (some ⟨g, 0, none⟩)) := blk_cell h.blk 0
theorem LO.c1 (h : LO w c gl m g W) : w.cell? ⟨gl, 1, none⟩ = some (.int .i64 W.base) := blk_cell h.blk 1
theorem LO.c2 (h : LO w c gl m g W) : w.cell? ⟨gl, 2, none⟩ = some (.int .i64 W.n) := blk_cell h.blk 2
theorem LO.c3 (h : LO w c gl m g W) : w.cell? ⟨gl, 3, none⟩ = some (.int .i64 W.low) := blk_cell h.blk 3
theorem LO.c4 (h : LO w c gl m g W) : w.cell? ⟨gl, 4, none⟩ = some (.int .i64 W.first) := blk_cell h.blk 4
theorem LO.c5 (h : LO w c gl m g W) : w.cell? ⟨gl, 5, none⟩ = some (.int .i64 W.op) := blk_cell h.blk 5
theorem LO.c6 (h : LO w c gl m g W) : w.cell? ⟨gl, 6, none⟩ = some (.int .u32 W.ep) := blk_cell h.blk 6
theorem LO.c7 (h : LO w c gl m g W) : w.cell? ⟨gl, 7, none⟩ = some (.map (some m)) := blk_cell h.blk 7
theorem LO.fz (h : LO w c gl m g W) (i : Nat) : w.frozen? ⟨gl, i, none⟩ = false := blk_frozen h.blk i
theorem LO.ne (h : LO w c gl m g W) : gl ≠ m := (MP.ne_cells h.map h.blk).symm
/-- Another row grows, which is none of the log's. -/
theorem LO.keepOwn (h : LO w c gl m g W) {r : Option Nat} (hg : w.grownBy w' r) {e : Nat} (ht : ∀ k, r = some k → ∃ cells, w.heap[k]? = some (.cells cells e (0, 0))) (he : e ≠ TLg := by decide) : LO w' c gl m g W := by
  have h1 : some gl ≠ r := fun e1 => by
    obtain ⟨cells, hc⟩ := ht gl e1.symm
    have hb := h.blk
    unfold LB at hb
    rw [hc] at hb
    injection hb with hb
    injection hb with _ hb _
    exact he hb
  have h2 : some m ≠ r := fun e1 => by
    obtain ⟨cells, hc⟩ := ht m e1.symm
    obtain ⟨L, cc, hm, _⟩ := h.map
    rw [hc] at hm
    cases hm
  exact ⟨(hg.block gl h.lt h1).trans h.blk, h.map.same (hg.block m h.map.lt h2), h.cl, h.cm⟩
/-- A field is set. -/
theorem LO.set (h : LO w c gl m g W) (i : Nat) (v : Value) {W' : WS} (hc : #[.pointer (some ⟨g, 0, none⟩), .int .i64 W.base, .int .i64 W.n, .int .i64 W.low, .int .i64 W.first, .int .i64 W.op, .int .u32 W.ep, .map (some m)].setIfInBounds i v = #[.pointer (some ⟨g, 0, none⟩), .int .i64 W'.base, .int .i64 W'.n, .int .i64 W'.low, .int .i64 W'.first, .int .i64 W'.op, .int .u32 W'.ep, .map (some m)]) (hF : W'.f = W.f) : LO (w.setCell ⟨gl, i, none⟩ v) c gl m g W' ∧ Fr [3] w c (w.setCell ⟨gl, i, none⟩ v) c := by
  have hf := (FS.refl (fun k => k = gl) w).setCell (p := ⟨gl, i, none⟩) (.inl rfl) v
  refine ⟨⟨?_, ?_, h.cl, h.cm⟩, Fr.of_fs hf (fun _ _ => rfl) (fun k _ e => by rw [e, h.cl]; simp)⟩
  · unfold LB
    simp only [World.setCell]
    rw [Array.getElem?_modify, if_pos rfl, h.blk, ← hc]
    rfl
  · rw [hF]
    exact h.map.same (Below.heap_setCell w ⟨gl, i, none⟩ v m h.ne.symm)
/-- The map is turned. -/
theorem LO.turn (h : LO w c gl m g W) {o : Obj} {f' : Int → Option ByteArray} (ho : MP (setBlock w m o) m f') : LO (setBlock w m o) c gl m g { W with f := f' } ∧ Fr [3] w c (setBlock w m o) c := by
  have hf := (FS.refl (fun k => k = m) w).setBlock (m := m) (.inl rfl) o
  exact ⟨⟨(setBlock_other w m o h.ne).trans h.blk, ho, h.cl, h.cm⟩, Fr.of_fs hf (fun _ _ => rfl) (fun k _ e => by rw [e, h.cm]; simp)⟩
end
theorem run_lookup0 {w : World} {m : Nat} {f : Int → Option ByteArray} (h : MP w m f) (i : Int) : (Instr.lookup 84 (.map (some m)) (.int .i64 i) false).run Try.prog w = .ok (.string ((f i).getD ⟨#[]⟩)) w := by
  have ht : Try.prog.underlying 84 = some (.map 3 9) := by kernel_rfl
  have hk : Try.prog.underlying 3 = some (.int .i64) := by kernel_rfl
  have hz : ∀ w, (zeroValue 9).run Try.prog w = .ok (.string ⟨#[]⟩) w := fun w => by kernel_rfl
  obtain ⟨L, c, h1, h2, h3⟩ := h
  have hf : (Instr.findKey 3 (.int .i64 i) (L.map ent)).run Try.prog w = .ok ((findM L i 0).map fun p => (p.1, .string p.2)) w := by
    simp [Instr.findKey, run_underlying hk, findNow_eq]
  have hg := find_get i L 0
  rw [h3] at hg
  cases hq : findM L i 0 with
  | none =>
    rw [hq] at hf hg
    have : f i = none := hg.symm
    simp [Instr.lookup, run_underlying ht, MapKept.run_getObj_map h1, checkKey_int hk, ents, hf, hz, this, Result.andThen]
  | some p =>
    rw [hq] at hf hg
    have : f i = some p.2 := hg.symm
    simp [Instr.lookup, run_underlying ht, MapKept.run_getObj_map h1, checkKey_int hk, ents, hf, hz, this, Result.andThen]
/-- The open sector's number, as the log's block has it. -/
def opOf (w : World) (gl : Nat) : Int := match w.cell? ⟨gl, 5, none⟩ with | some (.int _ x) => x | _ => 0
theorem LO.opOf {w : World} {c : Nat → Nat} {gl m g : Nat} {W : WS} (h : LO w c gl m g W) : opOf w gl = W.op := by unfold Wl.opOf; rw [h.c5]
section
variable {w : World} {c : Nat → Nat} {gl m g : Nat} {W : WS}
theorem next_calls (h : LO w c gl m g W) : Calls Try.prog 30 #[.pointer (some ⟨gl, 0, none⟩)] w fun e w' => e = .returned (.int .i64 W.op) ∧ Below w.heap.size w w' := by
  have c5 := h.c5
  clear h
  go_enter Try.func30, Try.ntmps30
  go_wp2
  go_ret
  exact ⟨rfl, Below.refl _ _⟩
theorem epoch_calls (h : LO w c gl m g W) (he : 0 ≤ W.ep ∧ W.ep < 4294967296) : Calls Try.prog 29 #[.pointer (some ⟨gl, 0, none⟩)] w fun e w' => e = .returned (.int .i64 W.ep) ∧ Below w.heap.size w w' := by
  have c6 := h.c6
  have hw : wrap64 W.ep = W.ep := by unfold wrap64; omega
  clear h he
  go_enter Try.func29, Try.ntmps29
  go_wp2
  go_ret
  refine ⟨?_, Below.refl _ _⟩
  first | rfl | (simp [hw])
/-- The number of a place's sector. -/
def sctr (at_ : Int) : Int := at_.tdiv 128
def safeW (W : WS) (at_ : Int) : Bool := decide (sctr at_ < W.first)
theorem safe_calls (h : LO w c gl m g W) (at_ : Int) (ha : -9223372036854775808 ≤ at_ ∧ at_ < 9223372036854775808) : Calls Try.prog 24 #[.pointer (some ⟨gl, 0, none⟩), .int .i64 at_] w fun e w' => e = .returned (.bool (safeW W at_)) ∧ Below w.heap.size w w' := by
  have c4 := h.c4
  have hw : wrap64 (at_.tdiv 128) = at_.tdiv 128 := by
    have h1 : (at_.tdiv 128).natAbs = at_.natAbs / 128 := Int.natAbs_tdiv at_ 128
    unfold wrap64; omega
  clear h
  go_enter Try.func24, Try.ntmps24
  go_wp2
  go_ret
  refine ⟨?_, Below.refl _ _⟩
  unfold safeW sctr
  first | rfl | (simp [hw])
/-- What room there is. -/
def roomW (W : WS) : Int := if bdy W W.op = ⟨#[]⟩ then W.low + W.n - W.op else W.low + W.n - W.op - 1
end
end Go.Proofs.Ytbnglmeljbiglaa.Wl
set_option maxRecDepth 8192
namespace Go.Proofs.Ytbnglmeljbiglaa.Wl
open Go.Proofs.Ytbnglmeljbiglaa.Rgn
open Go Go.RowKit Go.ChangeMaps Go.Proofs.Ytbnglmeljbiglaa.Arr Go.Proofs.Ytbnglmeljbiglaa.Mp Go.Proofs.Ytbnglmeljbiglaa.Ow Go.Proofs.Ytbnglmeljbiglaa.Dk Go.Proofs.Ytbnglmeljbiglaa.Fr Go.Proofs.YtbnglmeljbiglaaW.PrintWords Go.Proofs.YtbnglmeljbiglaaW.PrintLast Go.Proofs.YtbnglmeljbiglaaW.PrintMore
set_option linter.unusedVariables false
set_option linter.unusedSimpArgs false
/-- Whether a log may lie there. -/
def liesE (d : DS) (base n : Int) : Int := if n < 8 ∨ 64 < n ∨ base < 0 ∨ (d.safe.length : Int) - n < base then 1 else 0
section
variable {w : World} {c : Nat → Nat} {gl m g N : Nat} {W : WS} {d : DS}
theorem lies_calls (h : DK w (Col c 1) g d) (ho : OkN N d) (base n : Int) (hb : -9223372036854775808 ≤ base ∧ base < 9223372036854775808) (hn : -9223372036854775808 ≤ n ∧ n < 9223372036854775808) : Calls Try.prog 44 #[.pointer (some ⟨g, 0, none⟩), .int .i64 base, .int .i64 n] w fun e w' => e = .returned (.int .i64 (liesE d base n)) ∧ Below w.heap.size w w' := by
  have hlen : d.safe.length ≤ 512 := ho.1.2.2.2.1
  have HD := Aside0.mk h
  clear h ho
  unfold liesE
  by_cases a1 : n < 8
  · rw [if_pos (.inl a1)]
    have q1 : decide (n < 8) = true := decide_eq_true a1
    clear a1 hlen hb hn
    go_enter Try.func44, Try.ntmps44
    go_wp2
    go_ret
    exact ⟨rfl, Below.refl _ _⟩
  · have q1 : decide (n < 8) = false := decide_eq_false a1
    by_cases a2 : 64 < n
    · rw [if_pos (.inr (.inl a2))]
      have q2 : decide (64 < n) = true := decide_eq_true a2
      clear a1 a2 hlen hb hn
      go_enter Try.func44, Try.ntmps44
      go_wp2
      go_ret
      exact ⟨rfl, Below.refl _ _⟩
    · have q2 : decide (64 < n) = false := decide_eq_false a2
      by_cases a3 : base < 0
      · rw [if_pos (.inr (.inr (.inl a3)))]
        have q3 : decide (base < 0) = true := decide_eq_true a3
        clear a1 a2 a3 hlen hb hn
        go_enter Try.func44, Try.ntmps44
        go_wp2
        go_ret
        exact ⟨rfl, Below.refl _ _⟩
      · have q3 : decide (base < 0) = false := decide_eq_false a3
        have hw : wrap64 ((d.safe.length : Int) - n) = (d.safe.length : Int) - n := by unfold wrap64; omega
        by_cases a4 : (d.safe.length : Int) - n < base
        · rw [if_pos (.inr (.inr (.inr a4)))]
          have q4 : decide ((d.safe.length : Int) - n < base) = true := decide_eq_true a4
          clear a1 a2 a3 a4 hlen hb hn
          go_enter Try.func44, Try.ntmps44
          go_wp2_with (go_at_call 61; (with_reducible refine (size_calls d g _ _ HD.out).mono ?_); rintro e w1 ⟨rfl, hb1⟩; have HB := Aside0.mk hb1; clear hb1)
          go_ret
          exact ⟨rfl, HB.out⟩
        · rw [if_neg (by rintro (h | h | h | h) <;> omega)]
          have q4 : decide ((d.safe.length : Int) - n < base) = false := decide_eq_false a4
          clear a1 a2 a3 a4 hlen hb hn
          go_enter Try.func44, Try.ntmps44
          go_wp2_with (go_at_call 61; (with_reducible refine (size_calls d g _ _ HD.out).mono ?_); rintro e w1 ⟨rfl, hb1⟩; have HB := Aside0.mk hb1; clear hb1)
          go_ret
          exact ⟨rfl, HB.out⟩
/-- A new log. -/
abbrev newW (base n : Int) : WS := ⟨base, n, 1, 1, 1, 1, fun _ => none⟩
theorem lnew_at (h : DK w (Col c 1) g d) (ho : OkN N d) (base n : Int) (hb : -9223372036854775808 ≤ base ∧ base < 9223372036854775808) (hn : -9223372036854775808 ≤ n ∧ n < 9223372036854775808) (hl : liesE d base n = 0) : Calls Try.prog 12 #[.pointer (some ⟨g, 0, none⟩), .int .i64 base, .int .i64 n] w fun e w' => ∃ gl m, e = .returned (.tuple #[.pointer (some ⟨gl, 0, none⟩), .int .i64 0]) ∧ w.heap.size ≤ gl ∧ w.heap.size ≤ m ∧ Below w.heap.size w w' ∧ LO w' (Dk.paint c w.heap.size 3) gl m g (newW base n) ∧ DK w' (Col (Dk.paint c w.heap.size 3) 1) g d := by
  have hc := lies_calls h ho base n hb hn
  rw [hl] at hc
  have HC := Aside0.mk hc; have HD := Aside0.mk h
  have hmm : ∀ W : World, (Instr.makeMap 84 none).run Try.prog W = .ok (.map (some W.heap.size)) (W.alloc (.map #[] 0)) := fun W => rfl
  clear hc h ho hb hn hl
  go_enter Try.func12, Try.ntmps12
  go_wp2_with (go_at_call 44; (with_reducible refine HC.out.mono ?_); rintro e w1 ⟨rfl, hb1⟩; have HB := Aside0.mk hb1; clear hb1)
  go_ret2
  have ba := (Below.refl w1.heap.size w1).alloc (Nat.le_refl _) (.map #[] 0)
  have hm := MP.made w1
  have bb := (Below.refl (w1.alloc (.map #[] 0)).heap.size (w1.alloc (.map #[] 0))).alloc (Nat.le_refl _) (.cells #[.pointer (some ⟨g, 0, none⟩), .int .i64 base, .int .i64 n, .int .i64 1, .int .i64 1, .int .i64 1, .int .u32 1, .map (some w1.heap.size)] TLg)
  have hall := Arr.below_trans (Arr.below_trans HB.out ba) bb
  have hsz := HB.out.size
  have hnew := heap_alloc_new (w1.alloc (.map #[] 0)) (.cells #[.pointer (some ⟨g, 0, none⟩), .int .i64 base, .int .i64 n, .int .i64 1, .int .i64 1, .int .i64 1, .int .u32 1, .map (some w1.heap.size)] TLg)
  rw [show (w1.alloc (.map #[] 0)).heap.size = w1.heap.size + 1 by simp] at hnew bb
  refine ⟨w1.heap.size + 1, w1.heap.size, rfl, by omega, hsz, hall, ⟨hnew, hm.same (bb.block _ (by simp)), paint_new (by omega), paint_new hsz⟩, ?_⟩
  exact (HD.out.mono (S2 := Col (Dk.paint c w.heap.size 3) 1) fun k hk e => (paint_old hk).trans e).below hall
theorem lnew_calls (h : DK w (Col c 1) g d) (ho : OkN N d) (base n : Int) (hb : -9223372036854775808 ≤ base ∧ base < 9223372036854775808) (hn : -9223372036854775808 ≤ n ∧ n < 9223372036854775808) (hl : liesE d base n = 0) : Calls Try.prog 12 #[.pointer (some ⟨g, 0, none⟩), .int .i64 base, .int .i64 n] w fun e w' => ∃ gl m c', e = .returned (.tuple #[.pointer (some ⟨gl, 0, none⟩), .int .i64 0]) ∧ Fr [] w c w' c' ∧ LO w' c' gl m g (newW base n) ∧ DK w' (Col c' 1) g d := by
  refine (lnew_at h ho base n hb hn hl).mono ?_
  rintro e w' ⟨gl, m, rfl, h1, h2, hb, hL, hD⟩
  exact ⟨gl, m, _, rfl, Fr.of_paint hb 3, hL, hD⟩
/-- The disk's sector of a log's. -/
def placeW (W : WS) (i : Int) : Int := W.base + i.tmod W.n
/-- What a log lies by. -/
structure Fit (W : WS) : Prop where
  b : 0 ≤ W.base ∧ W.base ≤ 1000
  n : 1 ≤ W.n ∧ W.n ≤ 64
  low : 0 ≤ W.low ∧ W.low ≤ 1000000000000
  first : 0 ≤ W.first ∧ W.first ≤ 1000000000000
  op : 0 ≤ W.op ∧ W.op ≤ 1000000000000
  ep : 0 ≤ W.ep ∧ W.ep < 4294967296
theorem tmod_lt {n : Int} (hn : 1 ≤ n ∧ n ≤ 64) (i : Int) (hi : 0 ≤ i) : 0 ≤ i.tmod n ∧ i.tmod n < n := ⟨Int.tmod_nonneg _ hi, Int.tmod_lt_of_pos _ (by omega)⟩
theorem place_calls (h : LO w c gl m g W) (F : Fit W) (i : Int) (hi : 0 ≤ i) : Calls Try.prog 49 #[.pointer (some ⟨gl, 0, none⟩), .int .i64 i] w fun e w' => e = .returned (.int .i64 (placeW W i)) ∧ Below w.heap.size w w' := by
  have HL := Aside0.mk h; have HF := Aside0.mk F
  have ht := tmod_lt F.n i hi
  have hb := F.b; have hn := F.n
  have hw1 : wrap64 (i.tmod W.n) = i.tmod W.n := by unfold wrap64; omega
  have hw2 : wrap64 (W.base + i.tmod W.n) = W.base + i.tmod W.n := by unfold wrap64; omega
  have hnz : (W.n = 0) = False := eq_false (by omega)
  clear h F hi ht hb hn
  unfold placeW
  go_enter Try.func49, Try.ntmps49
  go_upto_region 1 with (fail)
  have HL1 := Aside0.mk HL.out.drew
  have c1 := HL1.out.c1; have c2 := HL1.out.c2
  refine start_ (n := 12) (S := fun w' => w'.cell? ⟨gl, 1, none⟩ = some (.int .i64 W.base) ∧ w'.cell? ⟨gl, 2, none⟩ = some (.int .i64 W.n)) (ds := []) #[false, false, false, false, false, false, false, false, false, false, false, false] (by kernel_rfl) rfl rfl ⟨c1, c2⟩ (fun hHeld => ?_)
  refine rgp 0 5 ?_
  refine rgp 1 6 ?_
  refine rgp 2 7 ?_
  refine rgp 4 9 ?_
  refine rgp 5 10 ?_
  refine rgp 6 11 ?_
  refine rgp 7 12 ?_
  refine rgt 3 8 hHeld ?_
  refine rgt 8 13 hHeld ?_
  refine rgp 9 14 ?_
  refine rgp 10 15 ?_
  refine rgp 11 4 ?_
  refine done_ (by kernel_rfl) ?_
  clear hHeld c1 c2
  go_wp2
  go_ret
  exact ⟨by first | rfl | (simp [hw1, hw2]), (Below.refl _ _).drew⟩
/-- The greatest epoch of the first k sectors' slabs. -/
def latestF (d : DS) (base : Int) : Nat → Int
  | 0 => 0
  | k + 1 => if (X12.unpackF (readS d (base + k))).2.2.2 = 0 then (if latestF d base k < (X12.unpackF (readS d (base + k))).1 then (X12.unpackF (readS d (base + k))).1 else latestF d base k) else latestF d base k
theorem unpack_lt (s : ByteArray) : (0 ≤ (X12.unpackF s).1 ∧ (X12.unpackF s).1 < 4294967296) ∧ 0 ≤ (X12.unpackF s).2.1 ∧ (X12.unpackF s).2.1 < 4294967296 := by
  unfold X12.unpackF
  split
  · exact ⟨X12.numB_range _, X12.numB_range _⟩
  · decide
theorem latest_lt (d : DS) (base : Int) (k : Nat) : 0 ≤ latestF d base k ∧ latestF d base k < 4294967296 := by
  induction k with
  | zero => unfold latestF; omega
  | succ k ih =>
    have := (unpack_lt (readS d (base + k))).1
    unfold latestF
    split
    · split <;> omega
    · omega
attribute [local go_sem] max2_int min2_int max_two min_two
set_option maxHeartbeats 4000000 in
theorem latest_calls (h : LO w c gl m g W) (hd : DK w (Col c 1) g d) (ho : OkN N d) (F : Fit W) : Calls Try.prog 54 #[.pointer (some ⟨gl, 0, none⟩)] w fun x w' => x = .returned (.int .u32 (latestF d W.base W.n.toNat)) ∧ Below w.heap.size w w' := by
  have HL := Aside0.mk h; have HD := Aside0.mk hd; have HO := Aside0.mk ho; have HF := Aside0.mk F
  have c2 := h.c2
  have hnn := F.n
  have HNN := Aside0.mk (show ((W.n.toNat : Nat) : Int) = W.n by omega)
  have HG := Aside0.mk (Below.refl w.heap.size w)
  clear h hd ho F hnn
  go_enter Try.func54, Try.ntmps54
  go_upto_region 2 with (fail)
  clear c2
  go_loopw [2, 12] (fun mx v wr => ∃ k : Nat, v = .int .i64 k ∧ mx = .int .u32 (latestF d W.base k) ∧ Aside0 (k ≤ W.n.toNat) ∧ Aside0 (LO wr c gl m g W) ∧ Aside0 (DK wr (Col c 1) g d) ∧ Aside0 (Below w.heap.size w wr)) (fun _ v _ => W.n.toNat - (intOf v).toNat)
  case atStart => exact ⟨0, rfl, rfl, ⟨Nat.zero_le _⟩, HL, HD, HG⟩
  case round =>
    clear HL HD HG
    obtain ⟨k, rfl, rfl, K, HL, HD, HB⟩ := hrel
    by_cases hlt : (k : Int) < W.n
    · have hk9 : (k : Int) < 1000 := by have := HF.out.n; omega
      have HW := Aside0.mk (show wrap64 (W.base + k) = W.base + k by have := HF.out.b; unfold wrap64; omega)
      go_upto_region 4 with (fail)
      have HL1 := Aside0.mk HL.out.drew; have HD1 := Aside0.mk HD.out.drew; have HB1 := Aside0.mk HB.out.drew
      have c0 := HL1.out.c0; have c1 := HL1.out.c1
      clear HL HD HB
      refine start_ (n := 16) (S := fun w' => w'.cell? ⟨gl, 0, none⟩ = some (.pointer (some ⟨g, 0, none⟩)) ∧ w'.cell? ⟨gl, 1, none⟩ = some (.int .i64 W.base)) (ds := []) #[false, false, false, false, false, false, false, false, false, false, false, false, false, false, false, false] (by kernel_rfl) rfl rfl ⟨c0, c1⟩ (fun hHeld => ?_)
      refine rgp 0 16 ?_
      refine rgp 1 17 ?_
      refine rgp 2 18 ?_
      refine rgp 4 20 ?_
      refine rgp 5 21 ?_
      refine rgp 6 22 ?_
      refine rgp 8 24 ?_
      refine rgt 3 19 hHeld ?_
      refine rgt 7 23 hHeld ?_
      refine rgp 9 25 ?_
      refine one_ (i := 10) (N := some 26) #[true, true, true, true, true, true, true, true, true, true, true, false, false, false, false, false] rfl rfl (by kernel_rfl) (by decide) (fun K hK => ?_)
      generalize wr.drew = X0_ at *
      refine goes_ Try.func71 (by kernel_rfl) rfl #[.pointer (some ⟨g, 0, none⟩), .int .i64 (wrap64 (W.base + k))] (by rfl) rfl rfl (by (try simp only [List.map_toArray, List.map_cons, List.map_nil]); first | done | rfl) ?_
      rw [HW.out]
      refine (read_calls d g (W.base + k) _ _ HD1.out HO.out.ok).mono ?_
      rintro e v1_ ⟨rfl, hb1⟩
      refine ⟨_, rfl, ?_⟩
      have HL2 := Aside0.mk (HL1.out.below hb1); have HD2 := Aside0.mk (HD1.out.below hb1); have HB2 := Aside0.mk (Arr.below_trans HB1.out hb1)
      clear hb1 HL1 HD1 HB1
      refine hK _ _ ⟨HL2.out.c0, HL2.out.c1⟩ (fun hHeld => ?_)
      clear hK K
      refine norm_ (a' := ?_) ?_ ?_
      rotate_left
      · show Act.put _ (some 26) _ = _
        simp only [Act.put, List.setIfInBounds_toArray, List.set_cons_zero, List.set_cons_succ, i64_w, i32_w]
        rfl
      refine rgp 11 15 ?_
      refine rgp 12 27 ?_
      refine rgp 13 28 ?_
      refine rgp 14 4 ?_
      refine rgp 15 5 ?_
      refine done_ (by kernel_rfl) ?_
      clear hHeld c0 c1
      obtain ⟨ue, ui, ub, ur, hu⟩ : ∃ a b c e, X12.unpackF (readS d (W.base + k)) = (a, b, c, e) := ⟨_, _, _, _, rfl⟩
      have HU := Aside0.mk hu
      have HLT := Aside0.mk (show latestF d W.base (k + 1) = if ur = 0 then (if latestF d W.base k < ue then ue else latestF d W.base k) else latestF d W.base k by show (if (X12.unpackF (readS d (W.base + k))).2.2.2 = 0 then _ else _) = _; rw [hu])
      clear hu
      go_upto_region 6 with (go_at_call 72; (with_reducible refine (X12.unpack_calls (readS d (W.base + k)) _).mono ?_); rintro e w3 ⟨rfl, hb3⟩; rw [HU.out]; have HL3 := Aside0.mk (HL2.out.below hb3); have HD3 := Aside0.mk (HD2.out.below hb3); have HB3 := Aside0.mk (Arr.below_trans HB2.out hb3); clear hb3)
      have HA := Aside0.mk (heap_alloc_new w3 (.cells #[.int .u32 ue, .int .u32 ui, .string ub] 97))
      have hba := (Below.refl w3.heap.size w3).alloc (Nat.le_refl _) (.cells #[.int .u32 ue, .int .u32 ui, .string ub] 97)
      have HL4 := Aside0.mk (HL3.out.below hba); have HD4 := Aside0.mk (HD3.out.below hba); have HB4 := Aside0.mk (Arr.below_trans HB3.out hba)
      clear hba HL3 HD3 HB3 HL2 HD2 HB2
      generalize w3.alloc (.cells #[.int .u32 ue, .int .u32 ui, .string ub] 97) = w4 at *
      have z0 : w4.cell? ⟨w3.heap.size, 0, none⟩ = some (.int .u32 ue) := blk_cell HA.out 0
      by_cases a1 : ur = 0
      · have b1 : (ur == 0) = true := by simpa using a1
        have HL2 := Aside0.mk (show latestF d W.base (k + 1) = (if latestF d W.base k < ue then ue else latestF d W.base k) by rw [HLT.out, if_pos a1])
        clear a1
        go_wp2
        go_roundw
        case rel => exact ⟨k + 1, by go_num, by rw [HL2.out], ⟨by have := HNN.out; omega⟩, HL4, HD4, HB4⟩
        case measure => have := HNN.out; simp [intOf]; omega
      · have b1 : (ur == 0) = false := by simpa using a1
        have HL2 := Aside0.mk (show latestF d W.base (k + 1) = latestF d W.base k by rw [HLT.out, if_neg a1])
        clear a1
        go_wp2
        go_roundw
        case rel => exact ⟨k + 1, by go_num, by rw [HL2.out], ⟨by have := HNN.out; omega⟩, HL4, HD4, HB4⟩
        case measure => have := HNN.out; simp [intOf]; omega
    · obtain rfl : k = W.n.toNat := by have := K.out; have := HNN.out; omega
      go_wp2
      go_ret
      exact ⟨rfl, HB.out⟩
end
end Go.Proofs.Ytbnglmeljbiglaa.Wl
set_option maxRecDepth 8192
namespace Go.Proofs.Ytbnglmeljbiglaa.Wr
open Go.Proofs.Ytbnglmeljbiglaa.Rgn
open Go.Proofs.Ytbnglmeljbiglaa.Rp Go.Proofs.Ytbnglmeljbiglaa.X4
open Go Go.RowKit Go.ChangeMaps Go.Proofs.Ytbnglmeljbiglaa.Arr Go.Proofs.Ytbnglmeljbiglaa.Ow Go.Proofs.YtbnglmeljbiglaaW.PrintWords Go.Proofs.YtbnglmeljbiglaaW.PrintLast Go.Proofs.YtbnglmeljbiglaaW.PrintMore
set_option linter.unusedVariables false
set_option linter.unusedSimpArgs false
set_option maxHeartbeats 1000000 in
theorem small_yes (g : Nat) (l : List UInt8) (n m : Int) (S : Nat → Prop) (w : World) (hS : Top S w) (h : WK w S g l) (hl : l.length ≤ 1000000) (h1 : 0 ≤ n) (h2 : n ≤ m) : Calls Try.prog 80 #[.pointer (some ⟨g, 0, none⟩), .int .i64 n, .int .i64 m] w fun x w' => x = .returned (.tuple #[]) ∧ WK w' S g (l ++ [b8 n]) ∧ FS S w w' := by
  have HS := Aside0.mk hS; have HW := Aside0.mk h; have HL := Aside0.mk hl; clear hS h hl
  have t1 : decide (0 ≤ n) = true := decide_eq_true h1
  have t2 : decide (n ≤ m) = true := decide_eq_true h2
  have HE := Aside0.mk (b8_nat n)
  clear h1 h2
  go_enter Try.func80, Try.ntmps80
  go_upto_region 1 with (go_at_call 63; (with_reducible refine (must_yes _ _).mono ?_); rintro e w1 ⟨rfl, rfl⟩)
  go_wp2_with (go_at_call 90; rw [← HE.out]; (with_reducible refine (writeByte_calls g l (b8 n) S _ HS.out HW.out HL.out).mono ?_); rintro e w1 ⟨rfl, hk, hf⟩; have HK := Aside0.mk hk; have F := Aside0.mk hf; clear hk hf)
  go_end0
  exact ⟨rfl, HK.out, F.out⟩
theorem small_no (g : Nat) (n m : Int) (w : World) (h : ¬ (0 ≤ n ∧ n ≤ m)) : Calls Try.prog 80 #[.pointer (some ⟨g, 0, none⟩), .int .i64 n, .int .i64 m] w fun x w' => x = gaveUp 1 ∧ w' = w := by
  by_cases h1 : 0 ≤ n
  · have t1 : decide (0 ≤ n) = true := decide_eq_true h1
    have t2 : decide (n ≤ m) = false := decide_eq_false (fun e => h ⟨h1, e⟩)
    clear h1 h
    go_enter Try.func80, Try.ntmps80
    go_wp2_with (go_at_call 63; (with_reducible refine (must_no _ _).mono ?_); rintro e w1 ⟨rfl, rfl⟩)
    exact ⟨rfl, rfl, rfl⟩
  · have t1 : decide (0 ≤ n) = false := decide_eq_false h1
    clear h1 h
    go_enter Try.func80, Try.ntmps80
    go_wp2_with (go_at_call 63; (with_reducible refine (must_no _ _).mono ?_); rintro e w1 ⟨rfl, rfl⟩)
    exact ⟨rfl, rfl, rfl⟩
theorem flat_len {xs : List Int} {k : Nat} (h : k ≤ xs.length) : ((xs.take k).flatMap four).length = 4 * k := by
  induction k with
  | zero => rfl
  | succ k ih =>
    rw [List.take_succ_eq_append_getElem (by omega), List.flatMap_append, List.length_append, ih (by omega)]
    simp [four]
    omega
theorem num_succ {xs : List Int} {k : Nat} {n : Int} (h : xs[k]? = some n) : (xs.take (k + 1)).flatMap four = (xs.take k).flatMap four ++ four n := by
  rw [List.take_add_one, h, List.flatMap_append]
  simp
theorem num_all {xs : List Int} {k : Nat} {n : Int} (ha : ∀ x ∈ xs.take k, isNum x = true) (h : xs[k]? = some n) (hn : isNum n = true) : ∀ x ∈ xs.take (k + 1), isNum x = true := by
  rw [List.take_add_one, h]
  intro x hx
  rcases List.mem_append.1 hx with hx | hx
  · exact ha x hx
  · simp at hx; rw [hx]; exact hn
theorem num_none {xs : List Int} {k : Nat} {n : Int} (h : xs[k]? = some n) (hn : ¬ isNum n = true) : numP xs = none := by
  unfold numP
  rw [if_neg]
  intro ha
  exact hn (List.all_eq_true.1 ha n (List.mem_of_getElem? h))
theorem num_some {xs : List Int} (h : ∀ x ∈ xs, isNum x = true) : numP xs = some (xs.flatMap four) := by
  unfold numP
  rw [if_pos (List.all_eq_true.2 h)]
/-- What a writer's function does: its bytes are behind the others, or it gives up. -/
def After (S : Nat → Prop) (g : Nat) (w : World) (l : List UInt8) (o : Option (List UInt8)) (x : Ending) (w' : World) : Prop :=
  match o with
  | some bs => x = .returned (.tuple #[]) ∧ WK w' S g (l ++ bs) ∧ FS S w w'
  | none => x = gaveUp 1 ∧ FS S w w'
theorem small_calls (g : Nat) (l : List UInt8) (n m : Int) (S : Nat → Prop) (w : World) (hS : Top S w) (h : WK w S g l) (hl : l.length ≤ 1000000) : Calls Try.prog 80 #[.pointer (some ⟨g, 0, none⟩), .int .i64 n, .int .i64 m] w fun x w' => After S g w l (smallP n m) x w' := by
  unfold smallP
  by_cases h1 : 0 ≤ n ∧ n ≤ m
  · rw [if_pos h1]
    exact small_yes g l n m S w hS h hl h1.1 h1.2
  · rw [if_neg h1]
    exact (small_no g n m w h1).mono fun x w' hx => ⟨hx.1, by rw [hx.2]; exact FS.refl _ _⟩
abbrev TI : TypeId := 3
set_option maxHeartbeats 4000000 in
theorem num_calls (g : Nat) (l : List UInt8) (xs : List Int) (b c : Nat) (S : Nat → Prop) (w : World) (hS : Top S w) (h : WK w S g l) (hb : w.heap[b]? = some (.cells (xs.map (Value.int .i64)).toArray TI (0, 0))) (hSb : ¬ S b) (hl : l.length + 4 * xs.length ≤ 1000000) : Calls Try.prog 82 #[.pointer (some ⟨g, 0, none⟩), .slice (some ⟨b, 0, none⟩) xs.length c] w fun x w' => After S g w l (numP xs) x w' := by
  have HS := Aside0.mk hS; have HL := Aside0.mk hl; have HB := Aside0.mk hb; have HSB := Aside0.mk hSb
  have HW := Aside0.mk h
  clear hS hl hb hSb h
  go_enter Try.func82, Try.ntmps82
  go_upto_region 1 with (fail)
  go_loopw [9] (fun v wr => ∃ k : Nat, v = .int .i64 k ∧ Aside0 (k ≤ xs.length) ∧ Aside0 (∀ x ∈ xs.take k, isNum x = true) ∧ Aside0 (WK wr S g (l ++ (xs.take k).flatMap four)) ∧ Aside0 (FS S w wr)) (fun v _ => xs.length - (intOf v).toNat)
  case atStart => exact ⟨0, rfl, ⟨Nat.zero_le _⟩, ⟨fun x hx => by simp at hx⟩, ⟨by simpa using HW.out⟩, ⟨FS.refl _ _⟩⟩
  case round =>
    clear HW
    obtain ⟨k, rfl, K, HA, HW, F⟩ := hrel
    by_cases hlt : k < xs.length
    · have h1 : (k : Int) < (xs.length : Int) := by omega
      have hwk : wrap64 ((k : Int) + 1) = ((k + 1 : Nat) : Int) := by have := HL.out; unfold wrap64; omega
      obtain ⟨n, hn⟩ : ∃ n, xs[k]? = some n := ⟨_, List.getElem?_eq_getElem hlt⟩
      have HN := Aside0.mk hn; have HLT := Aside0.mk hlt
      have q0 : wr.cell? ⟨b, k, none⟩ = some (.int .i64 n) := (blk_cell (F.out.old HB.out HSB.out) k).trans (by simp [hn])
      clear hn hlt
      by_cases hnum : isNum n = true
      · have hnn := (isNum_iff n).1 hnum
        have t1 : decide (0 ≤ n) = true := decide_eq_true hnn.1
        have t2 : decide (n ≤ 2147483647) = true := decide_eq_true hnn.2
        have HNN := Aside0.mk hnn; have HNU := Aside0.mk hnum
        clear hnn hnum
        go_upto_region 4 with (go_at_call 63; (with_reducible refine (must_yes _ _).mono ?_); rintro e w1 ⟨rfl, rfl⟩)
        go_upto_region 5 with (fail)
        go_loopw [6] (fun v wr2 => ∃ (j : Nat) (s : Int), v = .int .i64 s ∧ Aside0 (s = 24 - 8 * (j : Int)) ∧ Aside0 (j ≤ 4) ∧ Aside0 (WK wr2 S g (l ++ (xs.take k).flatMap four ++ (four n).take j)) ∧ Aside0 (FS S w wr2)) (fun v _ => (intOf v + 8).toNat)
        case atStart => exact ⟨0, 24, rfl, ⟨rfl⟩, ⟨by omega⟩, ⟨by simpa using HW.out⟩, F⟩
        case round =>
          clear HW F
          obtain ⟨j, s, rfl, E, J, HW2, F2⟩ := hrel
          have HKL := Aside0.mk (show ((xs.take k).flatMap four).length = 4 * k from flat_len (by have := HLT.out; omega))
          rcases (show j = 0 ∨ j = 1 ∨ j = 2 ∨ j = 3 ∨ j = 4 by have := J.out; omega) with rfl | rfl | rfl | rfl | rfl
          · obtain rfl : s = 24 := by have := E.out; omega
            go_upto_region 7 with (fail)
            have HW0 := Aside0.mk HW2.out.drew; have F0 := Aside0.mk F2.out.drew
            refine start_ (n := 8) (S := fun w' => True) (ds := [7]) #[false, false, false, false, false, false, false, false] (by kernel_rfl) rfl rfl trivial (fun hHeld => ?_)
            refine rgp 0 24 ?_
            refine rgp 1 25 ?_
            refine rgp 2 26 ?_
            refine rgp 3 27 ?_
            refine rgp 4 28 ?_
            refine rgp 5 29 ?_
            refine rgp 6 30 ?_
            refine last_ (i := 7) (N := some 31) #[true, true, true, true, true, true, true, true] rfl rfl (by kernel_rfl) (by decide) (fun K hK => ?_)
            refine goes_ Try.func90 (by kernel_rfl) rfl #[.pointer (some ⟨g, 0, none⟩), .int .u8 ((n / 16777216) % 256)] (by rfl) rfl rfl (by (try simp only [List.map_toArray, List.map_cons, List.map_nil]); first | done | rfl) ?_
            rw [← b8_nat]
            refine (writeByte_calls g _ _ S _ (HS.out.next F0.out.size) HW0.out (by simp only [List.length_append, HKL.out, four, List.length_take, List.length_cons, List.length_nil]; have := HL.out; have := HLT.out; omega)).mono ?_
            rintro e v1_ ⟨rfl, hk, hf⟩
            refine ⟨_, rfl, ?_⟩
            have HW3 := Aside0.mk hk; have F3 := Aside0.mk (F0.out.trans hf)
            refine hK _ _ ?_
            clear hK K hk hf
            refine norm_ (a' := ?_) ?_ ?_
            rotate_left
            · show Act.put _ (some 31) _ = _
              simp only [Act.put, List.setIfInBounds_toArray, List.set_cons_zero, List.set_cons_succ, i64_w, i32_w]
              rfl
            refine done_ (by kernel_rfl) ?_
            simp only [Exit.inBlock, Exit.then]
            go_wp2
            go_roundw
            case rel => exact ⟨1, 16, rfl, ⟨by omega⟩, ⟨by omega⟩, ⟨by rw [List.append_assoc] at HW3; exact HW3.out⟩, F3⟩
            case measure => simp only [intOf]; omega
          · obtain rfl : s = 16 := by have := E.out; omega
            go_upto_region 7 with (fail)
            have HW0 := Aside0.mk HW2.out.drew; have F0 := Aside0.mk F2.out.drew
            refine start_ (n := 8) (S := fun w' => True) (ds := [7]) #[false, false, false, false, false, false, false, false] (by kernel_rfl) rfl rfl trivial (fun hHeld => ?_)
            refine rgp 0 24 ?_
            refine rgp 1 25 ?_
            refine rgp 2 26 ?_
            refine rgp 3 27 ?_
            refine rgp 4 28 ?_
            refine rgp 5 29 ?_
            refine rgp 6 30 ?_
            refine last_ (i := 7) (N := some 31) #[true, true, true, true, true, true, true, true] rfl rfl (by kernel_rfl) (by decide) (fun K hK => ?_)
            refine goes_ Try.func90 (by kernel_rfl) rfl #[.pointer (some ⟨g, 0, none⟩), .int .u8 ((n / 65536) % 256)] (by rfl) rfl rfl (by (try simp only [List.map_toArray, List.map_cons, List.map_nil]); first | done | rfl) ?_
            rw [← b8_nat]
            refine (writeByte_calls g _ _ S _ (HS.out.next F0.out.size) HW0.out (by simp only [List.length_append, HKL.out, four, List.length_take, List.length_cons, List.length_nil]; have := HL.out; have := HLT.out; omega)).mono ?_
            rintro e v1_ ⟨rfl, hk, hf⟩
            refine ⟨_, rfl, ?_⟩
            have HW3 := Aside0.mk hk; have F3 := Aside0.mk (F0.out.trans hf)
            refine hK _ _ ?_
            clear hK K hk hf
            refine norm_ (a' := ?_) ?_ ?_
            rotate_left
            · show Act.put _ (some 31) _ = _
              simp only [Act.put, List.setIfInBounds_toArray, List.set_cons_zero, List.set_cons_succ, i64_w, i32_w]
              rfl
            refine done_ (by kernel_rfl) ?_
            simp only [Exit.inBlock, Exit.then]
            go_wp2
            go_roundw
            case rel => exact ⟨2, 8, rfl, ⟨by omega⟩, ⟨by omega⟩, ⟨by rw [List.append_assoc] at HW3; exact HW3.out⟩, F3⟩
            case measure => simp only [intOf]; omega
          · obtain rfl : s = 8 := by have := E.out; omega
            go_upto_region 7 with (fail)
            have HW0 := Aside0.mk HW2.out.drew; have F0 := Aside0.mk F2.out.drew
            refine start_ (n := 8) (S := fun w' => True) (ds := [7]) #[false, false, false, false, false, false, false, false] (by kernel_rfl) rfl rfl trivial (fun hHeld => ?_)
            refine rgp 0 24 ?_
            refine rgp 1 25 ?_
            refine rgp 2 26 ?_
            refine rgp 3 27 ?_
            refine rgp 4 28 ?_
            refine rgp 5 29 ?_
            refine rgp 6 30 ?_
            refine last_ (i := 7) (N := some 31) #[true, true, true, true, true, true, true, true] rfl rfl (by kernel_rfl) (by decide) (fun K hK => ?_)
            refine goes_ Try.func90 (by kernel_rfl) rfl #[.pointer (some ⟨g, 0, none⟩), .int .u8 ((n / 256) % 256)] (by rfl) rfl rfl (by (try simp only [List.map_toArray, List.map_cons, List.map_nil]); first | done | rfl) ?_
            rw [← b8_nat]
            refine (writeByte_calls g _ _ S _ (HS.out.next F0.out.size) HW0.out (by simp only [List.length_append, HKL.out, four, List.length_take, List.length_cons, List.length_nil]; have := HL.out; have := HLT.out; omega)).mono ?_
            rintro e v1_ ⟨rfl, hk, hf⟩
            refine ⟨_, rfl, ?_⟩
            have HW3 := Aside0.mk hk; have F3 := Aside0.mk (F0.out.trans hf)
            refine hK _ _ ?_
            clear hK K hk hf
            refine norm_ (a' := ?_) ?_ ?_
            rotate_left
            · show Act.put _ (some 31) _ = _
              simp only [Act.put, List.setIfInBounds_toArray, List.set_cons_zero, List.set_cons_succ, i64_w, i32_w]
              rfl
            refine done_ (by kernel_rfl) ?_
            simp only [Exit.inBlock, Exit.then]
            go_wp2
            go_roundw
            case rel => exact ⟨3, 0, rfl, ⟨by omega⟩, ⟨by omega⟩, ⟨by rw [List.append_assoc] at HW3; exact HW3.out⟩, F3⟩
            case measure => simp only [intOf]; omega
          · obtain rfl : s = 0 := by have := E.out; omega
            go_upto_region 7 with (fail)
            have HW0 := Aside0.mk HW2.out.drew; have F0 := Aside0.mk F2.out.drew
            refine start_ (n := 8) (S := fun w' => True) (ds := [7]) #[false, false, false, false, false, false, false, false] (by kernel_rfl) rfl rfl trivial (fun hHeld => ?_)
            refine rgp 0 24 ?_
            refine rgp 1 25 ?_
            refine rgp 2 26 ?_
            refine rgp 3 27 ?_
            refine rgp 4 28 ?_
            refine rgp 5 29 ?_
            refine rgp 6 30 ?_
            refine last_ (i := 7) (N := some 31) #[true, true, true, true, true, true, true, true] rfl rfl (by kernel_rfl) (by decide) (fun K hK => ?_)
            refine goes_ Try.func90 (by kernel_rfl) rfl #[.pointer (some ⟨g, 0, none⟩), .int .u8 (n % 256)] (by rfl) rfl rfl (by (try simp only [List.map_toArray, List.map_cons, List.map_nil]); first | done | rfl) ?_
            rw [← b8_nat]
            refine (writeByte_calls g _ _ S _ (HS.out.next F0.out.size) HW0.out (by simp only [List.length_append, HKL.out, four, List.length_take, List.length_cons, List.length_nil]; have := HL.out; have := HLT.out; omega)).mono ?_
            rintro e v1_ ⟨rfl, hk, hf⟩
            refine ⟨_, rfl, ?_⟩
            have HW3 := Aside0.mk hk; have F3 := Aside0.mk (F0.out.trans hf)
            refine hK _ _ ?_
            clear hK K hk hf
            refine norm_ (a' := ?_) ?_ ?_
            rotate_left
            · show Act.put _ (some 31) _ = _
              simp only [Act.put, List.setIfInBounds_toArray, List.set_cons_zero, List.set_cons_succ, i64_w, i32_w]
              rfl
            refine done_ (by kernel_rfl) ?_
            simp only [Exit.inBlock, Exit.then]
            go_wp2
            go_roundw
            case rel => exact ⟨4, -8, rfl, ⟨by omega⟩, ⟨by omega⟩, ⟨by rw [List.append_assoc] at HW3; exact HW3.out⟩, F3⟩
            case measure => simp only [intOf]; omega
          · obtain rfl : s = -8 := by have := E.out; omega
            go_wp2
            (try simp only [hwk])
            refine ⟨⟨k + 1, rfl, ⟨HLT.out⟩, ⟨num_all HA.out HN.out HNU.out⟩, ⟨?_⟩, F2⟩, ?_⟩
            · rw [num_succ HN.out, ← List.append_assoc]
              have h4 := HW2.out
              rwa [show (four n).take 4 = four n from rfl] at h4
            · have := HLT.out
              show xs.length - (intOf (.int .i64 ((k + 1 : Nat) : Int))).toNat < xs.length - (intOf (.int .i64 (k : Int))).toNat
              simp only [intOf]; omega
      · have hnone : numP xs = none := num_none HN.out hnum
        have HNO := Aside0.mk hnone
        have hcase : ¬ 0 ≤ n ∨ (0 ≤ n ∧ ¬ n ≤ 2147483647) := by
          by_cases h0 : 0 ≤ n
          · right; exact ⟨h0, fun h2 => hnum ((isNum_iff n).2 ⟨h0, h2⟩)⟩
          · exact .inl h0
        clear hnone hnum
        rcases hcase with h0 | ⟨h0, h2⟩
        · have t1 : decide (0 ≤ n) = false := decide_eq_false h0
          clear h0
          go_wp2_with (go_at_call 63; (with_reducible refine (must_no _ _).mono ?_); rintro e w1 ⟨rfl, rfl⟩)
          refine ⟨rfl, ?_⟩
          show After S g w l (numP xs) (gaveUp 1) _
          rw [HNO.out]
          exact ⟨rfl, F.out⟩
        · have t1 : decide (0 ≤ n) = true := decide_eq_true h0
          have t2 : decide (n ≤ 2147483647) = false := decide_eq_false h2
          clear h0 h2
          go_wp2_with (go_at_call 63; (with_reducible refine (must_no _ _).mono ?_); rintro e w1 ⟨rfl, rfl⟩)
          refine ⟨rfl, ?_⟩
          show After S g w l (numP xs) (gaveUp 1) _
          rw [HNO.out]
          exact ⟨rfl, F.out⟩
    · obtain rfl : k = xs.length := by have := K.out; omega
      clear hlt
      rw [List.take_length] at HA HW
      go_wp2
      go_end0
      show After S g w l (numP xs) _ _
      rw [num_some HA.out]
      exact ⟨rfl, HW.out, F.out⟩
end Go.Proofs.Ytbnglmeljbiglaa.Wr
set_option maxRecDepth 8192
namespace Go.Proofs.Ytbnglmeljbiglaa.Wr
open Go.Proofs.Ytbnglmeljbiglaa.Rp Go.Proofs.Ytbnglmeljbiglaa.X4
open Go Go.RowKit Go.ChangeMaps Go.Proofs.Ytbnglmeljbiglaa.Arr Go.Proofs.Ytbnglmeljbiglaa.Ow Go.Proofs.YtbnglmeljbiglaaW.PrintWords Go.Proofs.YtbnglmeljbiglaaW.PrintLast Go.Proofs.YtbnglmeljbiglaaW.PrintMore
set_option linter.unusedVariables false
set_option linter.unusedSimpArgs false
def Less (S : Nat → Prop) (b : Nat) : Nat → Prop := fun k => S k ∧ k ≠ b
theorem top_less {S : Nat → Prop} {w : World} (h : Top S w) (o : Obj) : Top (Less S w.heap.size) (w.alloc o) := fun k hk => by
  have : w.heap.size + 1 ≤ k := by simpa using hk
  exact ⟨h k (by omega), by omega⟩
theorem wk_less {S : Nat → Prop} {w : World} {g : Nat} {l : List UInt8} (h : WK w S g l) (o : Obj) : WK (w.alloc o) (Less S w.heap.size) g l :=
  (h.mono fun k hk e => ⟨e, Nat.ne_of_lt hk⟩).below ((Below.refl _ _).alloc (Nat.le_refl _) o)
theorem WK.more {S : Nat → Prop} {w : World} {g b : Nat} {l : List UInt8} (h : WK w (Less S b) g l) : WK w S g l := h.mono fun k _ e => e.1
theorem FS.more {S : Nat → Prop} {w w' : World} {b : Nat} (h : FS (Less S b) w w') : FS S w w' := FS.mono h fun k _ e => e.1
theorem After.fresh {S : Nat → Prop} {g : Nat} {w w' : World} {l : List UInt8} {o : Option (List UInt8)} {x : Ending} {ob : Obj} (h : After (Less S w.heap.size) g (w.alloc ob) l o x w') : After S g w l o x w' := by
  have hf : ∀ w', FS (Less S w.heap.size) (w.alloc ob) w' → FS S w w' := fun w' h => ((FS.refl S w).alloc ob).trans (FS.more h)
  cases o with
  | none => exact ⟨h.1, hf _ h.2⟩
  | some bs => exact ⟨h.1, h.2.1.more, hf _ h.2.2⟩
theorem not_less (S : Nat → Prop) (b : Nat) : ¬ Less S b b := fun h => h.2 rfl
/-- num of a row that was made for the call. -/
theorem num_fresh (g : Nat) (l : List UInt8) (xs : List Int) (S : Nat → Prop) (w : World) (hS : Top S w) (h : WK w S g l) (hl : l.length + 4 * xs.length ≤ 1000000) : Calls Try.prog 82 #[.pointer (some ⟨g, 0, none⟩), .slice (some ⟨w.heap.size, 0, none⟩) xs.length xs.length] (w.alloc (.cells (xs.map (Value.int .i64)).toArray TI)) fun x w' => After S g w l (numP xs) x w' :=
  (num_calls g l xs w.heap.size xs.length (Less S w.heap.size) (w.alloc (.cells (xs.map (Value.int .i64)).toArray TI)) (top_less hS _) (wk_less h _) (heap_alloc_new w _) (not_less _ _) hl).mono fun x w' hx => hx.fresh
theorem num_fresh1 (g : Nat) (l : List UInt8) (n : Int) (S : Nat → Prop) (w : World) (hS : Top S w) (h : WK w S g l) (hl : l.length + 4 ≤ 1000000) : Calls Try.prog 82 #[.pointer (some ⟨g, 0, none⟩), .slice (some ⟨w.heap.size, 0, none⟩) 1 1] (w.alloc (.cells #[.int .i64 n] TI)) fun x w' => After S g w l (numP [n]) x w' := num_fresh g l [n] S w hS h hl
theorem num_fresh2 (g : Nat) (l : List UInt8) (n m : Int) (S : Nat → Prop) (w : World) (hS : Top S w) (h : WK w S g l) (hl : l.length + 8 ≤ 1000000) : Calls Try.prog 82 #[.pointer (some ⟨g, 0, none⟩), .slice (some ⟨w.heap.size, 0, none⟩) 2 2] (w.alloc (.cells #[.int .i64 n, .int .i64 m] TI)) fun x w' => After S g w l (numP [n, m]) x w' := num_fresh g l [n, m] S w hS h hl
set_option maxHeartbeats 1000000 in
theorem txn_calls (g : Nat) (l : List UInt8) (n : Int) (S : Nat → Prop) (w : World) (hS : Top S w) (h : WK w S g l) (hl : l.length + 4 ≤ 1000000) : Calls Try.prog 81 #[.pointer (some ⟨g, 0, none⟩), .int .i64 n] w fun x w' => After S g w l (txnP n) x w' := by
  have HS := Aside0.mk hS; have HW := Aside0.mk h; have HL := Aside0.mk hl; have F := Aside0.mk (FS.refl S w); clear hS h hl
  by_cases h1 : 1 ≤ n
  · have t1 : decide (1 ≤ n) = true := decide_eq_true h1
    have E := Aside0.mk (show txnP n = numP [n] by unfold txnP; rw [if_pos h1])
    clear h1
    cases hp : numP [n] with
    | none =>
      have HP := Aside0.mk hp; clear hp
      go_enter Try.func81, Try.ntmps81
      go_wp2_with (first | (go_at_call 63; (with_reducible refine (must_yes _ _).mono ?_); rintro e w1 ⟨rfl, hw⟩; replace hw := hw.symm; subst hw) | (go_at_call 82; refine (num_fresh1 g l n S _ HS.out HW.out HL.out).mono ?_; rintro e w1 hx; rw [HP.out] at hx; obtain ⟨rfl, hf⟩ := hx; have F_n := Aside0.mk (F.out.trans hf); clear F; have F := F_n; clear F_n; clear hf))
      refine ⟨rfl, ?_⟩
      show After S g w l (txnP n) (gaveUp 1) _
      rw [E.out, HP.out]
      exact ⟨rfl, F.out⟩
    | some bs =>
      have HP := Aside0.mk hp; clear hp
      go_enter Try.func81, Try.ntmps81
      go_wp2_with (first | (go_at_call 63; (with_reducible refine (must_yes _ _).mono ?_); rintro e w1 ⟨rfl, hw⟩; replace hw := hw.symm; subst hw) | (go_at_call 82; refine (num_fresh1 g l n S _ HS.out HW.out HL.out).mono ?_; rintro e w1 hx; rw [HP.out] at hx; obtain ⟨rfl, hk, hf⟩ := hx; have HW_n := Aside0.mk (hk); have F_n := Aside0.mk (F.out.trans hf); clear HW F; have HW := HW_n; have F := F_n; clear HW_n F_n; clear hk hf))
      go_end0
      show After S g w l (txnP n) _ _
      rw [E.out, HP.out]
      exact ⟨rfl, HW.out, F.out⟩
  · have t1 : decide (1 ≤ n) = false := decide_eq_false h1
    have E := Aside0.mk (show txnP n = none by unfold txnP; rw [if_neg h1])
    clear h1
    go_enter Try.func81, Try.ntmps81
    go_wp2_with (go_at_call 63; (with_reducible refine (must_no _ _).mono ?_); rintro e w1 ⟨rfl, hw⟩; replace hw := hw.symm; subst hw)
    refine ⟨rfl, ?_⟩
    show After S g w l (txnP n) (gaveUp 1) _
    rw [E.out]
    exact ⟨rfl, FS.refl _ _⟩
/-- A record in a block of its own. -/
def RB (w : World) (b : Nat) (r : S37) (A9 : Option Addr) (c9 : Nat) (A10 : Option Addr) (c10 : Nat) : Prop :=
  w.heap[b]? = some (.cells #[.int .i64 r.f0, .int .i64 r.f1, .int .i64 r.f2, .int .i64 r.f3, .int .i64 r.f4, .int .i64 r.f5, .int .i64 r.f6, .string r.f7, .string r.f8, .slice A9 r.f9.length c9, .slice A10 r.f10.length c10] 37 (0, 0))
set_option maxHeartbeats 2000000 in
theorem place_calls (g : Nat) (l : List UInt8) (b : Nat) (r : S37) (A9 : Option Addr) (c9 : Nat) (A10 : Option Addr) (c10 : Nat) (S : Nat → Prop) (w : World) (hS : Top S w) (h : WK w S g l) (hb : RB w b r A9 c9 A10 c10) (hSb : ¬ S b) (hl : l.length + 4 ≤ 1000000) (hz : r.f8.size ≤ 1000000) : Calls Try.prog 83 #[.pointer (some ⟨g, 0, none⟩), .pointer (some ⟨b, 0, none⟩)] w fun x w' => After S g w l (placeP r.f2 r.f3 r.f8.size) x w' := by
  have HS := Aside0.mk hS; have HW := Aside0.mk h; have HL := Aside0.mk hl; have F := Aside0.mk (FS.refl S w); have HB := Aside0.mk hb; have HSB := Aside0.mk hSb
  clear hS h hl hb hSb
  have q8 : w.cell? ⟨b, 8, none⟩ = some (.string r.f8) := blk_cell HB.out 8
  have q2 : w.cell? ⟨b, 2, none⟩ = some (.int .i64 r.f2) := blk_cell HB.out 2
  by_cases h1 : (1 : Int) ≤ (r.f8.size : Int)
  · have t1 : decide ((1 : Int) ≤ (r.f8.size : Int)) = true := decide_eq_true h1
    have t1' : decide (1 ≤ r.f8.size) = true := decide_eq_true (by omega)
    have E := Aside0.mk (show placeP r.f2 r.f3 r.f8.size = cat (smallP r.f2 7) (cat (smallP r.f3 (220 - min (r.f8.size : Int) 220)) (smallP r.f8.size 16)) by unfold placeP; rw [if_pos h1])
    clear h1
    go_enter Try.func83, Try.ntmps83
    cases hp : smallP r.f2 7 with
    | none =>
      have HP := Aside0.mk hp; clear hp
      go_wp2_with (first | (go_at_call 63; (with_reducible refine (must_yes _ _).mono ?_); rintro e w1 ⟨rfl, hw⟩; replace hw := hw.symm; subst hw) | (go_at_call 80; refine (small_calls g l r.f2 7 S _ HS.out HW.out (by have := HL.out; omega)).mono ?_; rintro e w1 hx; rw [HP.out] at hx; obtain ⟨rfl, hf⟩ := hx; have F_n := Aside0.mk (F.out.trans hf); clear F; have F := F_n; clear F_n; clear hf))
      refine ⟨rfl, ?_⟩
      show After S g w l (placeP r.f2 r.f3 r.f8.size) (gaveUp 1) _
      rw [E.out, HP.out]
      exact ⟨rfl, F.out⟩
    | some b1 =>
    have HP := Aside0.mk hp; have HB1 := Aside0.mk (small_len hp); clear hp
    go_upto_region 3 with (first | (go_at_call 63; (with_reducible refine (must_yes _ _).mono ?_); rintro e w1 ⟨rfl, hw⟩; replace hw := hw.symm; subst hw) | (go_at_call 80; refine (small_calls g l r.f2 7 S _ HS.out HW.out (by have := HL.out; omega)).mono ?_; rintro e w2 hx; rw [HP.out] at hx; obtain ⟨rfl, hk, hf⟩ := hx; have HW_n := Aside0.mk (hk); have F_n := Aside0.mk (F.out.trans hf); clear HW F; have HW := HW_n; have F := F_n; clear HW_n F_n; clear hk hf))
    have q3 : w2.cell? ⟨b, 3, none⟩ = some (.int .i64 r.f3) := blk_cell (F.out.old HB.out HSB.out) 3
    have hw : wrap64 (220 - min (r.f8.size : Int) 220) = 220 - min (r.f8.size : Int) 220 := by unfold wrap64; omega
    cases hp2 : smallP r.f3 (220 - min (r.f8.size : Int) 220) with
    | none =>
      have HP2 := Aside0.mk hp2; clear hp2
      go_wp2_with (go_at_call 80; refine (small_calls g (l ++ b1) r.f3 (220 - min (r.f8.size : Int) 220) S _ (HS.out.next F.out.size) HW.out (by rw [List.length_append, HB1.out]; have := HL.out; omega)).mono ?_; rintro e w1 hx; rw [HP2.out] at hx; obtain ⟨rfl, hf⟩ := hx; have F_n := Aside0.mk (F.out.trans hf); clear F; have F := F_n; clear F_n; clear hf)
      refine ⟨rfl, ?_⟩
      show After S g w l (placeP r.f2 r.f3 r.f8.size) (gaveUp 1) _
      rw [E.out, HP.out, HP2.out]
      exact ⟨rfl, F.out⟩
    | some b2 =>
    have HP2 := Aside0.mk hp2; have HB2 := Aside0.mk (small_len hp2); clear hp2
    go_upto_region 4 with (go_at_call 80; refine (small_calls g (l ++ b1) r.f3 (220 - min (r.f8.size : Int) 220) S _ (HS.out.next F.out.size) HW.out (by rw [List.length_append, HB1.out]; have := HL.out; omega)).mono ?_; rintro e w3 hx; rw [HP2.out] at hx; obtain ⟨rfl, hk, hf⟩ := hx; have HW_n := Aside0.mk (hk); have F_n := Aside0.mk (F.out.trans hf); clear HW F; have HW := HW_n; have F := F_n; clear HW_n F_n; clear hk hf)
    cases hp3 : smallP r.f8.size 16 with
    | none =>
      have HP3 := Aside0.mk hp3; clear hp3
      go_wp2_with (go_at_call 80; refine (small_calls g (l ++ b1 ++ b2) r.f8.size 16 S _ (HS.out.next F.out.size) HW.out (by rw [List.length_append, List.length_append, HB1.out, HB2.out]; have := HL.out; omega)).mono ?_; rintro e w1 hx; rw [HP3.out] at hx; obtain ⟨rfl, hf⟩ := hx; have F_n := Aside0.mk (F.out.trans hf); clear F; have F := F_n; clear F_n; clear hf)
      refine ⟨rfl, ?_⟩
      show After S g w l (placeP r.f2 r.f3 r.f8.size) (gaveUp 1) _
      rw [E.out, HP.out, HP2.out, HP3.out]
      exact ⟨rfl, F.out⟩
    | some b3 =>
    have HP3 := Aside0.mk hp3; clear hp3
    go_wp2_with (go_at_call 80; refine (small_calls g (l ++ b1 ++ b2) r.f8.size 16 S _ (HS.out.next F.out.size) HW.out (by rw [List.length_append, List.length_append, HB1.out, HB2.out]; have := HL.out; omega)).mono ?_; rintro e w4 hx; rw [HP3.out] at hx; obtain ⟨rfl, hk, hf⟩ := hx; have HW_n := Aside0.mk (hk); have F_n := Aside0.mk (F.out.trans hf); clear HW F; have HW := HW_n; have F := F_n; clear HW_n F_n; clear hk hf)
    go_end0
    show After S g w l (placeP r.f2 r.f3 r.f8.size) _ _
    rw [E.out, HP.out, HP2.out, HP3.out]
    exact ⟨rfl, by simpa [List.append_assoc] using HW.out, F.out⟩
  · have t1 : decide ((1 : Int) ≤ (r.f8.size : Int)) = false := decide_eq_false h1
    have t1' : decide (1 ≤ r.f8.size) = false := decide_eq_false (by omega)
    have E := Aside0.mk (show placeP r.f2 r.f3 r.f8.size = none by unfold placeP; rw [if_neg h1])
    clear h1
    go_enter Try.func83, Try.ntmps83
    go_wp2_with (go_at_call 63; (with_reducible refine (must_no _ _).mono ?_); rintro e w1 ⟨rfl, hw⟩; replace hw := hw.symm; subst hw)
    refine ⟨rfl, ?_⟩
    show After S g w l (placeP r.f2 r.f3 r.f8.size) (gaveUp 1) _
    rw [E.out]
    exact ⟨rfl, FS.refl _ _⟩
end Go.Proofs.Ytbnglmeljbiglaa.Wr
set_option maxRecDepth 8192
namespace Go.Proofs.Ytbnglmeljbiglaa.Wr
open Go.Proofs.Ytbnglmeljbiglaa.Rp Go.Proofs.Ytbnglmeljbiglaa.X4
open Go Go.RowKit Go.ChangeMaps Go.Proofs.Ytbnglmeljbiglaa.Arr Go.Proofs.Ytbnglmeljbiglaa.Ow Go.Proofs.YtbnglmeljbiglaaW.PrintWords Go.Proofs.YtbnglmeljbiglaaW.PrintLast Go.Proofs.YtbnglmeljbiglaaW.PrintMore
set_option linter.unusedVariables false
set_option linter.unusedSimpArgs false
set_option maxHeartbeats 4000000 in
theorem tables_calls (g : Nat) (l : List UInt8) (b : Nat) (r : S37) (A9 : Option Addr) (c9 : Nat) (A10 : Option Addr) (c10 : Nat) (S : Nat → Prop) (w : World) (hS : Top S w) (h : WK w S g l) (hb : RB w b r A9 c9 A10 c10) (hSb : ¬ S b) (h9 : ∀ w', FS S w w' → Kd.C k107 w' A9 r.f9.length r.f9) (h10 : ∀ w', FS S w w' → Kd.C k109 w' A10 r.f10.length r.f10) (hl : l.length ≤ 900000) : Calls Try.prog 85 #[.pointer (some ⟨g, 0, none⟩), .pointer (some ⟨b, 0, none⟩)] w fun x w' => After S g w l (tablesP r) x w' := by
  have HS := Aside0.mk hS; have HW := Aside0.mk h; have HL := Aside0.mk hl; have F := Aside0.mk (FS.refl S w); have HB := Aside0.mk hb; have HSB := Aside0.mk hSb; have H9 := Aside0.mk h9; have H10 := Aside0.mk h10
  clear hS h hl hb hSb h9 h10
  have q6 : w.cell? ⟨b, 6, none⟩ = some (.int .i64 r.f6) := blk_cell HB.out 6
  cases hp1 : numP [r.f6] with
  | none =>
    have HP1 := Aside0.mk hp1; clear hp1
    go_enter Try.func85, Try.ntmps85
    go_wp2_with (go_at_call 82; refine (num_fresh1 g l r.f6 S _ HS.out HW.out (by have := HL.out; omega)).mono ?_; rintro e w1 hx; rw [HP1.out] at hx; obtain ⟨rfl, hf⟩ := hx; have F_n := Aside0.mk (F.out.trans hf); clear F; have F := F_n; clear F_n; clear hf)
    refine ⟨rfl, ?_⟩; show After S g w l (tablesP r) (gaveUp 1) _; rw [show tablesP r = none by unfold tablesP; rw [HP1.out]; rfl]; exact ⟨rfl, F.out⟩
  | some b1 =>
    have HP1 := Aside0.mk hp1; have HB1 := Aside0.mk (show b1.length = 4 from num_len hp1); clear hp1
    go_enter Try.func85, Try.ntmps85
    go_upto_region 1 with (go_at_call 82; refine (num_fresh1 g l r.f6 S _ HS.out HW.out (by have := HL.out; omega)).mono ?_; rintro e w1 hx; rw [HP1.out] at hx; obtain ⟨rfl, hk, hf⟩ := hx; have HW_n := Aside0.mk (hk); have F_n := Aside0.mk (F.out.trans hf); clear HW F; have HW := HW_n; have F := F_n; clear HW_n F_n; clear hk hf)
    have q9 : w1.cell? ⟨b, 9, none⟩ = some (.slice A9 r.f9.length c9) := blk_cell (F.out.old HB.out HSB.out) 9
    cases hp2 : smallP r.f9.length 4 with
    | none =>
      have HP2 := Aside0.mk hp2; clear hp2
      go_wp2_with (go_at_call 80; refine (small_calls g (l ++ b1) r.f9.length 4 S _ (HS.out.next F.out.size) HW.out (by rw [List.length_append, HB1.out]; have := HL.out; omega)).mono ?_; rintro e w1 hx; rw [HP2.out] at hx; obtain ⟨rfl, hf⟩ := hx; have F_n := Aside0.mk (F.out.trans hf); clear F; have F := F_n; clear F_n; clear hf)
      refine ⟨rfl, ?_⟩; show After S g w l (tablesP r) (gaveUp 1) _; rw [show tablesP r = none by unfold tablesP; rw [HP1.out, HP2.out]; rfl]; exact ⟨rfl, F.out⟩
    | some b2 =>
    have HP2 := Aside0.mk hp2; have HB2 := Aside0.mk (small_len hp2); have HC4 := Aside0.mk (show r.f9.length ≤ 4 by have := small_le hp2; omega); clear hp2
    go_upto_region 2 with (go_at_call 80; refine (small_calls g (l ++ b1) r.f9.length 4 S _ (HS.out.next F.out.size) HW.out (by rw [List.length_append, HB1.out]; have := HL.out; omega)).mono ?_; rintro e w2 hx; rw [HP2.out] at hx; obtain ⟨rfl, hk, hf⟩ := hx; have HW_n := Aside0.mk (hk); have F_n := Aside0.mk (F.out.trans hf); clear HW F; have HW := HW_n; have F := F_n; clear HW_n F_n; clear hk hf)
    have q9b : w2.cell? ⟨b, 9, none⟩ = some (.slice A9 r.f9.length c9) := blk_cell (F.out.old HB.out HSB.out) 9
    go_upto_region 3 with (fail)
    go_loopw [27] (fun v wr => ∃ (k : Nat) (L : List UInt8), v = .int .i64 k ∧ Aside0 (k ≤ r.f9.length) ∧ Aside0 (∃ bs, joinP ((r.f9.take k).map rowT) = some bs ∧ L = (l ++ b1 ++ b2) ++ bs) ∧ Aside0 (L.length ≤ l.length + 5 + 12 * k) ∧ Aside0 (WK wr S g L) ∧ Aside0 (FS S w wr)) (fun v _ => r.f9.length - (intOf v).toNat)
    case atStart => exact ⟨0, _, rfl, ⟨Nat.zero_le _⟩, ⟨[], rfl, rfl⟩, ⟨by rw [List.append_nil, List.length_append, List.length_append, HB1.out, HB2.out]; omega⟩, ⟨by simpa using HW.out⟩, F⟩
    case round =>
      clear HW F q9 q9b
      obtain ⟨k, L, rfl, K, HJ, HLN, HW, F⟩ := hrel
      by_cases hlt : k < r.f9.length
      · have h1 : (k : Int) < (r.f9.length : Int) := by omega
        have h2 : (0 : Int) ≤ (k : Int) := by omega
        have hwk : wrap64 ((k : Int) + 1) = ((k + 1 : Nat) : Int) := by have := HC4.out; unfold wrap64; omega
        obtain ⟨ad, e_, x0, x1, x2⟩ := at_T107 (H9.out wr F.out) k h2 h1
        have HX := Aside0.mk (show r.f9[k]? = some (rd_T107 r.f9 k) by unfold rd_T107; rw [Int.toNat_natCast, List.getD_eq_getElem?_getD, List.getElem?_eq_getElem hlt]; rfl)
        simp only [Int.toNat_natCast] at x0 x1 x2
        subst e_
        generalize rd_T107 r.f9 k = x at *
        have HLT := Aside0.mk hlt
        have HS1 := Aside0.mk (top_less (HS.out.next F.out.size) (.cells #[.int .i64 x.f0, .int .i64 x.f1, .int .i64 x.f2] 107))
        have HW1 := Aside0.mk (wk_less HW.out (.cells #[.int .i64 x.f0, .int .i64 x.f1, .int .i64 x.f2] 107))
        have HB1 := Aside0.mk (heap_alloc_new wr (.cells #[.int .i64 x.f0, .int .i64 x.f1, .int .i64 x.f2] 107))
        have F0 := Aside0.mk (F.out.alloc (.cells #[.int .i64 x.f0, .int .i64 x.f1, .int .i64 x.f2] 107))
        have F1 := Aside0.mk (FS.refl (Less S wr.heap.size) (wr.alloc (.cells #[.int .i64 x.f0, .int .i64 x.f1, .int .i64 x.f2] 107)))
        clear hlt
        cases hp3 : txnP x.f0 with
        | none =>
          as_aux_lemma =>
          have HP3 := Aside0.mk hp3; clear hp3
          go_wp2_with (go_at_call 81; refine (txn_calls g L x.f0 (Less S wr.heap.size) _ HS1.out HW1.out (by have := HLN.out; have := HLT.out; have := HC4.out; have := HL.out; omega)).mono ?_; rintro e w1 hx; rw [HP3.out] at hx; obtain ⟨rfl, hf⟩ := hx; have F1_n := Aside0.mk (F1.out.trans hf); clear F1; have F1 := F1_n; clear F1_n; clear hf)
          refine ⟨rfl, ?_⟩
          show After S g w l (tablesP r) (gaveUp 1) _
          rw [show tablesP r = none by unfold tablesP; rw [HP1.out, HP2.out, join_none HX.out (by unfold rowT; rw [HP3.out]; rfl)]; rfl]
          exact ⟨rfl, F0.out.trans (FS.more F1.out)⟩
        | some b3 =>
        have HP3 := Aside0.mk hp3; have HB3 := Aside0.mk (txn_len hp3); clear hp3
        go_upto_region 6 with (go_at_call 81; refine (txn_calls g L x.f0 (Less S wr.heap.size) _ HS1.out HW1.out (by have := HLN.out; have := HLT.out; have := HC4.out; have := HL.out; omega)).mono ?_; rintro e w4 hx; rw [HP3.out] at hx; obtain ⟨rfl, hk, hf⟩ := hx; have HW1_n := Aside0.mk (hk); have F1_n := Aside0.mk (F1.out.trans hf); clear HW1 F1; have HW1 := HW1_n; have F1 := F1_n; clear HW1_n F1_n; clear hk hf)
        have y1 : w4.cell? ⟨wr.heap.size, 1, none⟩ = some (.int .i64 x.f1) := blk_cell (F1.out.old HB1.out (not_less _ _)) 1
        have y2 : w4.cell? ⟨wr.heap.size, 2, none⟩ = some (.int .i64 x.f2) := blk_cell (F1.out.old HB1.out (not_less _ _)) 2
        cases hp4 : numP [x.f1, x.f2] with
        | none =>
          as_aux_lemma =>
          have HP4 := Aside0.mk hp4; clear hp4
          go_wp2_with (go_at_call 82; refine (num_fresh2 g (L ++ b3) x.f1 x.f2 (Less S wr.heap.size) _ (HS1.out.next F1.out.size) HW1.out (by rw [List.length_append, HB3.out]; have := HLN.out; have := HLT.out; have := HC4.out; have := HL.out; omega)).mono ?_; rintro e w1 hx; rw [HP4.out] at hx; obtain ⟨rfl, hf⟩ := hx; have F1_n := Aside0.mk (F1.out.trans hf); clear F1; have F1 := F1_n; clear F1_n; clear hf)
          refine ⟨rfl, ?_⟩
          show After S g w l (tablesP r) (gaveUp 1) _
          rw [show tablesP r = none by unfold tablesP; rw [HP1.out, HP2.out, join_none HX.out (by unfold rowT; rw [HP3.out, HP4.out]; rfl)]; rfl]
          exact ⟨rfl, F0.out.trans (FS.more F1.out)⟩
        | some b4 =>
        as_aux_lemma =>
        have HP4 := Aside0.mk hp4; have HB4 := Aside0.mk (num_len hp4); clear hp4
        go_wp2_with (go_at_call 82; refine (num_fresh2 g (L ++ b3) x.f1 x.f2 (Less S wr.heap.size) _ (HS1.out.next F1.out.size) HW1.out (by rw [List.length_append, HB3.out]; have := HLN.out; have := HLT.out; have := HC4.out; have := HL.out; omega)).mono ?_; rintro e w5 hx; rw [HP4.out] at hx; obtain ⟨rfl, hk, hf⟩ := hx; have HW1_n := Aside0.mk (hk); have F1_n := Aside0.mk (F1.out.trans hf); clear HW1 F1; have HW1 := HW1_n; have F1 := F1_n; clear HW1_n F1_n; clear hk hf)
        have FF := Aside0.mk (F0.out.trans (FS.more F1.out)); have WW := Aside0.mk (HW1.out.more); clear F0 F1 HW1
        (try simp only [hwk])
        obtain ⟨bs, hj, hL⟩ := HJ.out
        refine ⟨⟨k + 1, L ++ b3 ++ b4, rfl, ⟨HLT.out⟩, ⟨bs ++ (b3 ++ b4), join_succ HX.out hj (by unfold rowT; rw [HP3.out, HP4.out]; rfl), by rw [hL]; simp only [List.append_assoc]⟩, ⟨?_⟩, WW, FF⟩, ?_⟩
        · have := HLN.out; have h5 := HB4.out; rw [List.length_append, List.length_append, HB3.out, h5]; simp only [List.length_cons, List.length_nil]; omega
        · have := HLT.out
          show r.f9.length - (intOf (.int .i64 ((k + 1 : Nat) : Int))).toNat < r.f9.length - (intOf (.int .i64 (k : Int))).toNat
          simp only [intOf]; omega
      · obtain rfl : k = r.f9.length := by have := K.out; omega
        clear hlt
        obtain ⟨bs, hj, hL⟩ := HJ.out
        rw [List.take_length] at hj
        have HJ1 := Aside0.mk hj; have HL1 := Aside0.mk hL; clear hj hL HJ
        obtain ⟨L2, HL2⟩ : ∃ L2, Aside0 (L2 = L) := ⟨_, ⟨rfl⟩⟩
        obtain rfl := HL2.out
        clear HL2
        have q10 : wr.cell? ⟨b, 10, none⟩ = some (.slice A10 r.f10.length c10) := blk_cell (F.out.old HB.out HSB.out) 10
        go_upto_region 8 with (fail)
        cases hp5 : smallP r.f10.length 8 with
        | none =>
          as_aux_lemma =>
          have HP5 := Aside0.mk hp5; clear hp5
          go_wp2_with (go_at_call 80; refine (small_calls g L2 r.f10.length 8 S _ (HS.out.next F.out.size) HW.out (by have := HLN.out; have := HC4.out; have := HL.out; omega)).mono ?_; rintro e w1 hx; rw [HP5.out] at hx; obtain ⟨rfl, hf⟩ := hx; have F_n := Aside0.mk (F.out.trans hf); clear F; have F := F_n; clear F_n; clear hf)
          refine ⟨rfl, ?_⟩; show After S g w l (tablesP r) (gaveUp 1) _; rw [show tablesP r = none by unfold tablesP; rw [HP1.out, HP2.out, HJ1.out, HP5.out]; rfl]; exact ⟨rfl, F.out⟩
        | some b5 =>
        have HP5 := Aside0.mk hp5; have HB5 := Aside0.mk (small_len hp5); have HC8 := Aside0.mk (show r.f10.length ≤ 8 by have := small_le hp5; omega); clear hp5
        go_upto_region 9 with (go_at_call 80; refine (small_calls g L2 r.f10.length 8 S _ (HS.out.next F.out.size) HW.out (by have := HLN.out; have := HC4.out; have := HL.out; omega)).mono ?_; rintro e w3 hx; rw [HP5.out] at hx; obtain ⟨rfl, hk, hf⟩ := hx; have HW_n := Aside0.mk (hk); have F_n := Aside0.mk (F.out.trans hf); clear HW F; have HW := HW_n; have F := F_n; clear HW_n F_n; clear hk hf)
        have q10b : w3.cell? ⟨b, 10, none⟩ = some (.slice A10 r.f10.length c10) := blk_cell (F.out.old HB.out HSB.out) 10
        have HLN0 := HLN; clear HLN
        go_upto_region 10 with (fail)
        go_loopw [55] (fun v wr => ∃ (k : Nat) (L : List UInt8), v = .int .i64 k ∧ Aside0 (k ≤ r.f10.length) ∧ Aside0 (∃ bs, joinP ((r.f10.take k).map rowQ) = some bs ∧ L = (L2 ++ b5) ++ bs) ∧ Aside0 (L.length ≤ l.length + 54 + 5 * k) ∧ Aside0 (WK wr S g L) ∧ Aside0 (FS S w wr)) (fun v _ => r.f10.length - (intOf v).toNat)
        case atStart => exact ⟨0, _, rfl, ⟨Nat.zero_le _⟩, ⟨[], rfl, rfl⟩, ⟨by rw [List.append_nil, List.length_append, HB5.out]; have := HLN0.out; have := HC4.out; omega⟩, ⟨by simpa using HW.out⟩, F⟩
        case round =>
          clear HW F q10 q10b
          obtain ⟨k, L, rfl, K, HJ, HLN, HW, F⟩ := hrel
          by_cases hlt : k < r.f10.length
          · have h1 : (k : Int) < (r.f10.length : Int) := by omega
            have h2 : (0 : Int) ≤ (k : Int) := by omega
            have hwk : wrap64 ((k : Int) + 1) = ((k + 1 : Nat) : Int) := by have := HC8.out; unfold wrap64; omega
            obtain ⟨ad, e_, x0, x1⟩ := at_T109 (H10.out wr F.out) k h2 h1
            have HX := Aside0.mk (show r.f10[k]? = some (rd_T109 r.f10 k) by unfold rd_T109; rw [Int.toNat_natCast, List.getD_eq_getElem?_getD, List.getElem?_eq_getElem hlt]; rfl)
            simp only [Int.toNat_natCast] at x0 x1
            subst e_
            generalize rd_T109 r.f10 k = x at *
            have HLT := Aside0.mk hlt
            have HS1 := Aside0.mk (top_less (HS.out.next F.out.size) (.cells #[.int .i64 x.f0, .int .i64 x.f1] 109))
            have HW1 := Aside0.mk (wk_less HW.out (.cells #[.int .i64 x.f0, .int .i64 x.f1] 109))
            have HB1 := Aside0.mk (heap_alloc_new wr (.cells #[.int .i64 x.f0, .int .i64 x.f1] 109))
            have F0 := Aside0.mk (F.out.alloc (.cells #[.int .i64 x.f0, .int .i64 x.f1] 109))
            have F1 := Aside0.mk (FS.refl (Less S wr.heap.size) (wr.alloc (.cells #[.int .i64 x.f0, .int .i64 x.f1] 109)))
            clear hlt
            cases hp3 : smallP x.f0 7 with
            | none =>
              as_aux_lemma =>
              have HP3 := Aside0.mk hp3; clear hp3
              go_wp2_with (go_at_call 80; refine (small_calls g L x.f0 7 (Less S wr.heap.size) _ HS1.out HW1.out (by have := HLN.out; have := HLT.out; have := HC8.out; have := HL.out; omega)).mono ?_; rintro e w1 hx; rw [HP3.out] at hx; obtain ⟨rfl, hf⟩ := hx; have F1_n := Aside0.mk (F1.out.trans hf); clear F1; have F1 := F1_n; clear F1_n; clear hf)
              refine ⟨rfl, ?_⟩
              show After S g w l (tablesP r) (gaveUp 1) _
              rw [show tablesP r = none by unfold tablesP; rw [HP1.out, HP2.out, HJ1.out, HP5.out, join_none HX.out (by unfold rowQ; rw [HP3.out]; rfl)]; rfl]
              exact ⟨rfl, F0.out.trans (FS.more F1.out)⟩
            | some b3 =>
            have HP3 := Aside0.mk hp3; have HB3 := Aside0.mk (small_len hp3); clear hp3
            go_upto_region 13 with (go_at_call 80; refine (small_calls g L x.f0 7 (Less S wr.heap.size) _ HS1.out HW1.out (by have := HLN.out; have := HLT.out; have := HC8.out; have := HL.out; omega)).mono ?_; rintro e w4 hx; rw [HP3.out] at hx; obtain ⟨rfl, hk, hf⟩ := hx; have HW1_n := Aside0.mk (hk); have F1_n := Aside0.mk (F1.out.trans hf); clear HW1 F1; have HW1 := HW1_n; have F1 := F1_n; clear HW1_n F1_n; clear hk hf)
            have y1 : w4.cell? ⟨wr.heap.size, 1, none⟩ = some (.int .i64 x.f1) := blk_cell (F1.out.old HB1.out (not_less _ _)) 1
            skip
            cases hp4 : numP [x.f1] with
            | none =>
              as_aux_lemma =>
              have HP4 := Aside0.mk hp4; clear hp4
              go_wp2_with (go_at_call 82; refine (num_fresh1 g (L ++ b3) x.f1 (Less S wr.heap.size) _ (HS1.out.next F1.out.size) HW1.out (by rw [List.length_append, HB3.out]; have := HLN.out; have := HLT.out; have := HC8.out; have := HL.out; omega)).mono ?_; rintro e w1 hx; rw [HP4.out] at hx; obtain ⟨rfl, hf⟩ := hx; have F1_n := Aside0.mk (F1.out.trans hf); clear F1; have F1 := F1_n; clear F1_n; clear hf)
              refine ⟨rfl, ?_⟩
              show After S g w l (tablesP r) (gaveUp 1) _
              rw [show tablesP r = none by unfold tablesP; rw [HP1.out, HP2.out, HJ1.out, HP5.out, join_none HX.out (by unfold rowQ; rw [HP3.out, HP4.out]; rfl)]; rfl]
              exact ⟨rfl, F0.out.trans (FS.more F1.out)⟩
            | some b4 =>
            as_aux_lemma =>
            have HP4 := Aside0.mk hp4; have HB4 := Aside0.mk (num_len hp4); clear hp4
            go_wp2_with (go_at_call 82; refine (num_fresh1 g (L ++ b3) x.f1 (Less S wr.heap.size) _ (HS1.out.next F1.out.size) HW1.out (by rw [List.length_append, HB3.out]; have := HLN.out; have := HLT.out; have := HC8.out; have := HL.out; omega)).mono ?_; rintro e w5 hx; rw [HP4.out] at hx; obtain ⟨rfl, hk, hf⟩ := hx; have HW1_n := Aside0.mk (hk); have F1_n := Aside0.mk (F1.out.trans hf); clear HW1 F1; have HW1 := HW1_n; have F1 := F1_n; clear HW1_n F1_n; clear hk hf)
            have FF := Aside0.mk (F0.out.trans (FS.more F1.out)); have WW := Aside0.mk (HW1.out.more); clear F0 F1 HW1
            (try simp only [hwk])
            obtain ⟨bs, hj, hL⟩ := HJ.out
            refine ⟨⟨k + 1, L ++ b3 ++ b4, rfl, ⟨HLT.out⟩, ⟨bs ++ (b3 ++ b4), join_succ HX.out hj (by unfold rowQ; rw [HP3.out, HP4.out]; rfl), by rw [hL]; simp only [List.append_assoc]⟩, ⟨?_⟩, WW, FF⟩, ?_⟩
            · have := HLN.out; have h5 := HB4.out; rw [List.length_append, List.length_append, HB3.out, h5]; simp only [List.length_cons, List.length_nil]; omega
            · have := HLT.out
              show r.f10.length - (intOf (.int .i64 ((k + 1 : Nat) : Int))).toNat < r.f10.length - (intOf (.int .i64 (k : Int))).toNat
              simp only [intOf]; omega
          · obtain rfl : k = r.f10.length := by have := K.out; omega
            clear hlt
            obtain ⟨bs2, hj2, hL2⟩ := HJ.out
            rw [List.take_length] at hj2
            go_wp2
            go_end0
            show After S g w l (tablesP r) _ _
            rw [show tablesP r = some (b1 ++ (b2 ++ (bs ++ (b5 ++ bs2)))) by unfold tablesP; rw [HP1.out, HP2.out, HJ1.out, HP5.out, hj2]; rfl]
            exact ⟨rfl, by have h := HW.out; rw [hL2, HL1.out] at h; simpa only [List.append_assoc] using h, F.out⟩
end Go.Proofs.Ytbnglmeljbiglaa.Wr
set_option maxRecDepth 8192
namespace Go.Proofs.Ytbnglmeljbiglaa.Sa
open Go Go.RowKit Go.ChangeMaps Go.Proofs.Ytbnglmeljbiglaa.Rp Go.Proofs.Ytbnglmeljbiglaa.X4 Go.Proofs.YtbnglmeljbiglaaW.PrintWords Go.Proofs.YtbnglmeljbiglaaW.PrintLast Go.Proofs.YtbnglmeljbiglaaW.PrintMore
set_option linter.unusedVariables false
set_option linter.unusedSimpArgs false
attribute [local go_sem high] eqA107 eqA109
theorem neT_iff (x y : S107) : (!(x.f0 == y.f0) || (!(x.f1 == y.f1) || (!(x.f2 == y.f2)))) = false ↔ x = y := by
  obtain ⟨a, b, c⟩ := x
  obtain ⟨d, e, f⟩ := y
  simp only [S107.mk.injEq]
  by_cases h1 : a = d <;> by_cases h2 : b = e <;> simp [h1, h2]
theorem take_neT {X Y : List S107} {k : Nat} {x y : S107} (hx : X[k]? = some x) (hy : Y[k]? = some y) (hn : x ≠ y) : X ≠ Y := fun e => by
  subst e
  rw [hx] at hy
  exact hn (Option.some.inj hy)
theorem take_eqT {X Y : List S107} {k : Nat} {x : S107} (h : X.take k = Y.take k) (hx : X[k]? = some x) (hy : Y[k]? = some x) : X.take (k + 1) = Y.take (k + 1) := by
  rw [List.take_add_one, List.take_add_one, h, hx, hy]
theorem neQ_iff (x y : S109) : (!(x.f0 == y.f0) || (!(x.f1 == y.f1))) = false ↔ x = y := by
  obtain ⟨a, b⟩ := x
  obtain ⟨d, e⟩ := y
  simp only [S109.mk.injEq]
  by_cases h1 : a = d <;> by_cases h2 : b = e <;> simp [h1, h2]
theorem take_neQ {X Y : List S109} {k : Nat} {x y : S109} (hx : X[k]? = some x) (hy : Y[k]? = some y) (hn : x ≠ y) : X ≠ Y := fun e => by
  subst e
  rw [hx] at hy
  exact hn (Option.some.inj hy)
theorem take_eqQ {X Y : List S109} {k : Nat} {x : S109} (h : X.take k = Y.take k) (hx : X[k]? = some x) (hy : Y[k]? = some x) : X.take (k + 1) = Y.take (k + 1) := by
  rw [List.take_add_one, List.take_add_one, h, hx, hy]
set_option maxHeartbeats 1000000 in
theorem eqT_calls (X Y : List S107) (A : Option Addr) (c : Nat) (B : Option Addr) (d : Nat) (w : World) (hx : Kd.C k107 w A X.length X) (hy : Kd.C k107 w B Y.length Y) (hl : X.length ≤ 1000000) : Calls Try.prog 78 #[.slice A X.length c, .slice B Y.length d] w fun e w' => e = .returned (.bool (decide (X = Y))) ∧ Below w.heap.size w w' := by
  have hu := Try.underlying107
  have HCX := Aside0.mk hx; have HCY := Aside0.mk hy; have HL := Aside0.mk hl
  clear hx hy hl
  by_cases hle : X.length = Y.length
  rotate_left
  · have e1 : ((X.length : Int) != (Y.length : Int)) = true := by rw [bne_iff_ne]; omega
    have e2 : (X.length == Y.length) = false := by rw [beq_eq_false_iff_ne]; exact hle
    have HN := Aside0.mk (show decide (X = Y) = false from decide_eq_false fun e => hle (by rw [e]))
    clear hle
    go_enter Try.func78, Try.ntmps78
    go_wp2
    go_ret
    exact ⟨by rw [HN.out]; rfl, Below.refl _ _⟩
  have e1 : ((X.length : Int) != (Y.length : Int)) = false := by rw [bne_eq_false_iff_eq]; omega
  have e2 : (X.length == Y.length) = true := by rw [beq_iff_eq]; exact hle
  have HLE := Aside0.mk hle
  clear hle
  go_enter Try.func78, Try.ntmps78
  go_upto_region 4 with (fail)
  clear e1 e2
  go_loopw [13] (fun v wr => ∃ k : Nat, v = .int .i64 k ∧ Aside0 (k ≤ X.length) ∧ Aside0 (X.take k = Y.take k) ∧ Aside0 (∃ m, wr = w.drewN m)) (fun v _ => X.length - (intOf v).toNat)
  case atStart => exact ⟨0, rfl, ⟨Nat.zero_le _⟩, ⟨rfl⟩, ⟨0, rfl⟩⟩
  case round =>
    obtain ⟨k, rfl, K, HT, HW⟩ := hrel
    obtain ⟨m, rfl⟩ := HW.out
    by_cases hlt : k < X.length
    · have h1 : (k : Int) < (X.length : Int) := by omega
      have h1b : (k : Int) < (Y.length : Int) := by have := HLE.out; omega
      have h2 : (0 : Int) ≤ (k : Int) := by omega
      have hly : k < Y.length := by have := HLE.out; omega
      have hwk : wrap64 ((k : Int) + 1) = ((k + 1 : Nat) : Int) := by have := HL.out; unfold wrap64; omega
      obtain ⟨ad, e_, x0, x1, x2⟩ := at_T107 HCX.out k h2 h1
      obtain ⟨bd, e2_, y0, y1, y2⟩ := at_T107 HCY.out k h2 h1b
      have hX : X[k]? = some (rd_T107 X k) := by unfold rd_T107; rw [Int.toNat_natCast, List.getD_eq_getElem?_getD, List.getElem?_eq_getElem (by omega)]; rfl
      have hY : Y[k]? = some (rd_T107 Y k) := by unfold rd_T107; rw [Int.toNat_natCast, List.getD_eq_getElem?_getD, List.getElem?_eq_getElem (by omega)]; rfl
      have HX := Aside0.mk hX; have HY := Aside0.mk hY; clear hX hY
      simp only [Int.toNat_natCast] at x0 x1 x2 y0 y1 y2
      subst e_; subst e2_
      generalize rd_T107 X k = x at *
      generalize rd_T107 Y k = y at *
      have HLT := Aside0.mk hlt
      by_cases hxy : x = y
      · have n1 : (!(x.f0 == y.f0) || (!(x.f1 == y.f1) || (!(x.f2 == y.f2)))) = false := (neT_iff x y).2 hxy
        have HXY := Aside0.mk hxy; clear hxy hlt
        go_wp2
        go_quiet (fail)
        go_wp2
        (try simp only [hwk])
        refine ⟨⟨k + 1, rfl, ⟨HLT.out⟩, ⟨take_eqT HT.out HX.out (by rw [HXY.out]; exact HY.out)⟩, ⟨⟨_, rfl⟩⟩⟩, ?_⟩
        have := HLT.out
        show X.length - (intOf (.int .i64 ((k + 1 : Nat) : Int))).toNat < X.length - (intOf (.int .i64 (k : Int))).toNat
        simp only [intOf]; omega
      · have n1 : (!(x.f0 == y.f0) || (!(x.f1 == y.f1) || (!(x.f2 == y.f2)))) = true := by rw [← Bool.not_eq_false, neT_iff]; exact hxy
        have HN := Aside0.mk (show decide (X = Y) = false from decide_eq_false (take_neT HX.out HY.out hxy))
        clear hxy hlt
        go_wp2
        go_quiet (fail)
        go_wp2
        go_ret
        exact ⟨by rw [HN.out]; rfl, pw_below_drewN (pw_below_drewN (Below.refl _ _) _) _⟩
    · obtain rfl : k = X.length := by have := K.out; omega
      have HN := Aside0.mk (show decide (X = Y) = true by
        have h := HT.out
        rw [List.take_length, HLE.out, List.take_length] at h
        exact decide_eq_true h)
      clear hlt
      go_wp2
      go_ret
      exact ⟨by rw [HN.out]; rfl, pw_below_drewN (Below.refl _ _) _⟩
set_option maxHeartbeats 1000000 in
theorem eqQ_calls (X Y : List S109) (A : Option Addr) (c : Nat) (B : Option Addr) (d : Nat) (w : World) (hx : Kd.C k109 w A X.length X) (hy : Kd.C k109 w B Y.length Y) (hl : X.length ≤ 1000000) : Calls Try.prog 79 #[.slice A X.length c, .slice B Y.length d] w fun e w' => e = .returned (.bool (decide (X = Y))) ∧ Below w.heap.size w w' := by
  have hu := Try.underlying109
  have HCX := Aside0.mk hx; have HCY := Aside0.mk hy; have HL := Aside0.mk hl
  clear hx hy hl
  by_cases hle : X.length = Y.length
  rotate_left
  · have e1 : ((X.length : Int) != (Y.length : Int)) = true := by rw [bne_iff_ne]; omega
    have e2 : (X.length == Y.length) = false := by rw [beq_eq_false_iff_ne]; exact hle
    have HN := Aside0.mk (show decide (X = Y) = false from decide_eq_false fun e => hle (by rw [e]))
    clear hle
    go_enter Try.func79, Try.ntmps79
    go_wp2
    go_ret
    exact ⟨by rw [HN.out]; rfl, Below.refl _ _⟩
  have e1 : ((X.length : Int) != (Y.length : Int)) = false := by rw [bne_eq_false_iff_eq]; omega
  have e2 : (X.length == Y.length) = true := by rw [beq_iff_eq]; exact hle
  have HLE := Aside0.mk hle
  clear hle
  go_enter Try.func79, Try.ntmps79
  go_upto_region 4 with (fail)
  clear e1 e2
  go_loopw [13] (fun v wr => ∃ k : Nat, v = .int .i64 k ∧ Aside0 (k ≤ X.length) ∧ Aside0 (X.take k = Y.take k) ∧ Aside0 (∃ m, wr = w.drewN m)) (fun v _ => X.length - (intOf v).toNat)
  case atStart => exact ⟨0, rfl, ⟨Nat.zero_le _⟩, ⟨rfl⟩, ⟨0, rfl⟩⟩
  case round =>
    obtain ⟨k, rfl, K, HT, HW⟩ := hrel
    obtain ⟨m, rfl⟩ := HW.out
    by_cases hlt : k < X.length
    · have h1 : (k : Int) < (X.length : Int) := by omega
      have h1b : (k : Int) < (Y.length : Int) := by have := HLE.out; omega
      have h2 : (0 : Int) ≤ (k : Int) := by omega
      have hly : k < Y.length := by have := HLE.out; omega
      have hwk : wrap64 ((k : Int) + 1) = ((k + 1 : Nat) : Int) := by have := HL.out; unfold wrap64; omega
      obtain ⟨ad, e_, x0, x1⟩ := at_T109 HCX.out k h2 h1
      obtain ⟨bd, e2_, y0, y1⟩ := at_T109 HCY.out k h2 h1b
      have hX : X[k]? = some (rd_T109 X k) := by unfold rd_T109; rw [Int.toNat_natCast, List.getD_eq_getElem?_getD, List.getElem?_eq_getElem (by omega)]; rfl
      have hY : Y[k]? = some (rd_T109 Y k) := by unfold rd_T109; rw [Int.toNat_natCast, List.getD_eq_getElem?_getD, List.getElem?_eq_getElem (by omega)]; rfl
      have HX := Aside0.mk hX; have HY := Aside0.mk hY; clear hX hY
      simp only [Int.toNat_natCast] at x0 x1 y0 y1
      subst e_; subst e2_
      generalize rd_T109 X k = x at *
      generalize rd_T109 Y k = y at *
      have HLT := Aside0.mk hlt
      by_cases hxy : x = y
      · have n1 : (!(x.f0 == y.f0) || (!(x.f1 == y.f1))) = false := (neQ_iff x y).2 hxy
        have HXY := Aside0.mk hxy; clear hxy hlt
        go_wp2
        go_quiet (fail)
        go_wp2
        (try simp only [hwk])
        refine ⟨⟨k + 1, rfl, ⟨HLT.out⟩, ⟨take_eqQ HT.out HX.out (by rw [HXY.out]; exact HY.out)⟩, ⟨⟨_, rfl⟩⟩⟩, ?_⟩
        have := HLT.out
        show X.length - (intOf (.int .i64 ((k + 1 : Nat) : Int))).toNat < X.length - (intOf (.int .i64 (k : Int))).toNat
        simp only [intOf]; omega
      · have n1 : (!(x.f0 == y.f0) || (!(x.f1 == y.f1))) = true := by rw [← Bool.not_eq_false, neQ_iff]; exact hxy
        have HN := Aside0.mk (show decide (X = Y) = false from decide_eq_false (take_neQ HX.out HY.out hxy))
        clear hxy hlt
        go_wp2
        go_quiet (fail)
        go_wp2
        go_ret
        exact ⟨by rw [HN.out]; rfl, pw_below_drewN (pw_below_drewN (Below.refl _ _) _) _⟩
    · obtain rfl : k = X.length := by have := K.out; omega
      have HN := Aside0.mk (show decide (X = Y) = true by
        have h := HT.out
        rw [List.take_length, HLE.out, List.take_length] at h
        exact decide_eq_true h)
      clear hlt
      go_wp2
      go_ret
      exact ⟨by rw [HN.out]; rfl, pw_below_drewN (Below.refl _ _) _⟩
theorem two_below {w w' : World} {X Y : Obj} (hb : Below ((w.alloc X).alloc Y).heap.size ((w.alloc X).alloc Y) w') : w'.heap[w.heap.size]? = some X ∧ w'.heap[w.heap.size + 1]? = some Y := by
  have h1 : ((w.alloc X).alloc Y).heap[w.heap.size]? = some X := blk_below (heap_alloc_new w X) ((Below.refl _ _).alloc (Nat.le_refl _) Y)
  have h2 := heap_alloc_new (w.alloc X) Y
  rw [show (w.alloc X).heap.size = w.heap.size + 1 by simp] at h2
  exact ⟨blk_below h1 hb, blk_below h2 hb⟩
abbrev aggR (r : S37) (B9 : Option Addr) (d9 : Nat) (B10 : Option Addr) (d10 : Nat) : Value := .agg #[.int .i64 r.f0, .int .i64 r.f1, .int .i64 r.f2, .int .i64 r.f3, .int .i64 r.f4, .int .i64 r.f5, .int .i64 r.f6, .string r.f7, .string r.f8, .slice B9 r.f9.length d9, .slice B10 r.f10.length d10]
set_option maxHeartbeats 4000000 in
theorem same_calls (a b : S37) (A9 : Option Addr) (c9 : Nat) (A10 : Option Addr) (c10 : Nat) (B9 : Option Addr) (d9 : Nat) (B10 : Option Addr) (d10 : Nat) (w : World)
    (h9 : Kd.C k107 w A9 a.f9.length a.f9) (h10 : Kd.C k109 w A10 a.f10.length a.f10) (g9 : Kd.C k107 w B9 b.f9.length b.f9) (g10 : Kd.C k109 w B10 b.f10.length b.f10) (s9 : a.f9.length ≤ 1000000) (s10 : a.f10.length ≤ 1000000) :
    Calls Try.prog 64 #[aggR a A9 c9 A10 c10, aggR b B9 d9 B10 d10] w fun e w' => e = .returned (.bool (decide (a = b))) ∧ Below w.heap.size w w' := by
  have H9 := Aside0.mk h9; have H10 := Aside0.mk h10; have G9 := Aside0.mk g9; have G10 := Aside0.mk g10; have S9 := Aside0.mk s9; have S10 := Aside0.mk s10
  clear h9 h10 g9 g10 s9 s10
  by_cases h0 : a.f0 = b.f0
  rotate_left
  · have e0 : (a.f0 == b.f0) = false := by rw [beq_eq_false_iff_ne]; exact h0
    have HN := Aside0.mk (show decide (a = b) = false from decide_eq_false fun e => h0 (by rw [e]))
    clear h0
    go_enter Try.func64, Try.ntmps64
    go_wp2
    go_ret
    exact ⟨by rw [HN.out]; rfl, ((Below.refl w.heap.size w).alloc (Nat.le_refl _) _).alloc (by simp) _⟩
  have e0 : (a.f0 == b.f0) = true := by rw [beq_iff_eq, h0]
  have Q0 := Aside0.mk h0; clear h0
  by_cases h1 : a.f1 = b.f1
  rotate_left
  · have e1 : (a.f1 == b.f1) = false := by rw [beq_eq_false_iff_ne]; exact h1
    have HN := Aside0.mk (show decide (a = b) = false from decide_eq_false fun e => h1 (by rw [e]))
    clear h1
    go_enter Try.func64, Try.ntmps64
    go_wp2
    go_ret
    exact ⟨by rw [HN.out]; rfl, ((Below.refl w.heap.size w).alloc (Nat.le_refl _) _).alloc (by simp) _⟩
  have e1 : (a.f1 == b.f1) = true := by rw [beq_iff_eq, h1]
  have Q1 := Aside0.mk h1; clear h1
  by_cases h2 : a.f2 = b.f2
  rotate_left
  · have e2 : (a.f2 == b.f2) = false := by rw [beq_eq_false_iff_ne]; exact h2
    have HN := Aside0.mk (show decide (a = b) = false from decide_eq_false fun e => h2 (by rw [e]))
    clear h2
    go_enter Try.func64, Try.ntmps64
    go_wp2
    go_ret
    exact ⟨by rw [HN.out]; rfl, ((Below.refl w.heap.size w).alloc (Nat.le_refl _) _).alloc (by simp) _⟩
  have e2 : (a.f2 == b.f2) = true := by rw [beq_iff_eq, h2]
  have Q2 := Aside0.mk h2; clear h2
  by_cases h3 : a.f3 = b.f3
  rotate_left
  · have e3 : (a.f3 == b.f3) = false := by rw [beq_eq_false_iff_ne]; exact h3
    have HN := Aside0.mk (show decide (a = b) = false from decide_eq_false fun e => h3 (by rw [e]))
    clear h3
    go_enter Try.func64, Try.ntmps64
    go_wp2
    go_ret
    exact ⟨by rw [HN.out]; rfl, ((Below.refl w.heap.size w).alloc (Nat.le_refl _) _).alloc (by simp) _⟩
  have e3 : (a.f3 == b.f3) = true := by rw [beq_iff_eq, h3]
  have Q3 := Aside0.mk h3; clear h3
  by_cases h4 : a.f4 = b.f4
  rotate_left
  · have e4 : (a.f4 == b.f4) = false := by rw [beq_eq_false_iff_ne]; exact h4
    have HN := Aside0.mk (show decide (a = b) = false from decide_eq_false fun e => h4 (by rw [e]))
    clear h4
    go_enter Try.func64, Try.ntmps64
    go_wp2
    go_ret
    exact ⟨by rw [HN.out]; rfl, ((Below.refl w.heap.size w).alloc (Nat.le_refl _) _).alloc (by simp) _⟩
  have e4 : (a.f4 == b.f4) = true := by rw [beq_iff_eq, h4]
  have Q4 := Aside0.mk h4; clear h4
  by_cases h5 : a.f5 = b.f5
  rotate_left
  · have e5 : (a.f5 == b.f5) = false := by rw [beq_eq_false_iff_ne]; exact h5
    have HN := Aside0.mk (show decide (a = b) = false from decide_eq_false fun e => h5 (by rw [e]))
    clear h5
    go_enter Try.func64, Try.ntmps64
    go_wp2
    go_ret
    exact ⟨by rw [HN.out]; rfl, ((Below.refl w.heap.size w).alloc (Nat.le_refl _) _).alloc (by simp) _⟩
  have e5 : (a.f5 == b.f5) = true := by rw [beq_iff_eq, h5]
  have Q5 := Aside0.mk h5; clear h5
  by_cases h6 : a.f6 = b.f6
  rotate_left
  · have e6 : (a.f6 == b.f6) = false := by rw [beq_eq_false_iff_ne]; exact h6
    have HN := Aside0.mk (show decide (a = b) = false from decide_eq_false fun e => h6 (by rw [e]))
    clear h6
    go_enter Try.func64, Try.ntmps64
    go_wp2
    go_ret
    exact ⟨by rw [HN.out]; rfl, ((Below.refl w.heap.size w).alloc (Nat.le_refl _) _).alloc (by simp) _⟩
  have e6 : (a.f6 == b.f6) = true := by rw [beq_iff_eq, h6]
  have Q6 := Aside0.mk h6; clear h6
  by_cases h7 : a.f7 = b.f7
  rotate_left
  · have e7 : (a.f7.toList == b.f7.toList) = false := by rw [beq_eq_false_iff_ne]; exact fun e => h7 ((toList_eq _ _).1 e)
    have HN := Aside0.mk (show decide (a = b) = false from decide_eq_false fun e => h7 (by rw [e]))
    clear h7
    go_enter Try.func64, Try.ntmps64
    go_wp2
    go_ret
    exact ⟨by rw [HN.out]; rfl, ((Below.refl w.heap.size w).alloc (Nat.le_refl _) _).alloc (by simp) _⟩
  have e7 : (a.f7.toList == b.f7.toList) = true := by rw [beq_iff_eq, h7]
  have Q7 := Aside0.mk h7; clear h7
  by_cases h8 : a.f8 = b.f8
  rotate_left
  · have e8 : (a.f8.toList == b.f8.toList) = false := by rw [beq_eq_false_iff_ne]; exact fun e => h8 ((toList_eq _ _).1 e)
    have HN := Aside0.mk (show decide (a = b) = false from decide_eq_false fun e => h8 (by rw [e]))
    clear h8
    go_enter Try.func64, Try.ntmps64
    go_wp2
    go_ret
    exact ⟨by rw [HN.out]; rfl, ((Below.refl w.heap.size w).alloc (Nat.le_refl _) _).alloc (by simp) _⟩
  have e8 : (a.f8.toList == b.f8.toList) = true := by rw [beq_iff_eq, h8]
  have Q8 := Aside0.mk h8; clear h8
  by_cases h9 : a.f9 = b.f9
  rotate_left
  · have HN := Aside0.mk (show decide (a = b) = false from decide_eq_false fun e => h9 (by rw [e])); have HD9 := Aside0.mk (decide_eq_false h9)
    clear h9
    go_enter Try.func64, Try.ntmps64
    go_wp2_with (go_at_call 78; (with_reducible refine (eqT_calls a.f9 b.f9 _ _ _ _ _ (Kd.C_below H9.out (((Below.refl w.heap.size w).alloc (Nat.le_refl _) _).alloc (by simp) _)) (Kd.C_below G9.out (((Below.refl w.heap.size w).alloc (Nat.le_refl _) _).alloc (by simp) _)) S9.out).mono ?_); rintro e w9 ⟨rfl, hb_⟩; rw [HD9.out]; have HB9 := Aside0.mk (Below.trans (((Below.refl w.heap.size w).alloc (Nat.le_refl _) _).alloc (by simp) _) (hb_.mono (by simp; omega))); have q10 : w9.cell? ⟨w.heap.size, 10, none⟩ = some (.slice A10 a.f10.length c10) := blk_cell (two_below hb_).1 10; have p10 : w9.cell? ⟨w.heap.size + 1, 10, none⟩ = some (.slice B10 b.f10.length d10) := blk_cell (two_below hb_).2 10; clear hb_)
    go_ret
    exact ⟨by rw [HN.out]; rfl, HB9.out⟩
  by_cases h10 : a.f10 = b.f10
  rotate_left
  · have HN := Aside0.mk (show decide (a = b) = false from decide_eq_false fun e => h10 (by rw [e])); have HD9 := Aside0.mk (decide_eq_true h9); have HD10 := Aside0.mk (decide_eq_false h10)
    clear h9 h10
    go_enter Try.func64, Try.ntmps64
    go_wp2_with (first | (go_at_call 78; (with_reducible refine (eqT_calls a.f9 b.f9 _ _ _ _ _ (Kd.C_below H9.out (((Below.refl w.heap.size w).alloc (Nat.le_refl _) _).alloc (by simp) _)) (Kd.C_below G9.out (((Below.refl w.heap.size w).alloc (Nat.le_refl _) _).alloc (by simp) _)) S9.out).mono ?_); rintro e w9 ⟨rfl, hb_⟩; rw [HD9.out]; have HB9 := Aside0.mk (Below.trans (((Below.refl w.heap.size w).alloc (Nat.le_refl _) _).alloc (by simp) _) (hb_.mono (by simp; omega))); have q10 : w9.cell? ⟨w.heap.size, 10, none⟩ = some (.slice A10 a.f10.length c10) := blk_cell (two_below hb_).1 10; have p10 : w9.cell? ⟨w.heap.size + 1, 10, none⟩ = some (.slice B10 b.f10.length d10) := blk_cell (two_below hb_).2 10; clear hb_) | (go_at_call 79; (with_reducible refine (eqQ_calls a.f10 b.f10 _ _ _ _ _ (Kd.C_below H10.out (HB9.out)) (Kd.C_below G10.out (HB9.out)) S10.out).mono ?_); rintro e w10 ⟨rfl, hb_⟩; rw [HD10.out]; have HB10 := Aside0.mk (HB9.out.trans (hb_.mono HB9.out.size)); clear hb_))
    go_ret
    exact ⟨by rw [HN.out]; rfl, HB10.out⟩
  have HN := Aside0.mk (show decide (a = b) = true from decide_eq_true (by obtain ⟨a0, a1, a2, a3, a4, a5, a6, a7, a8, a9, a10⟩ := a; obtain ⟨b0, b1, b2, b3, b4, b5, b6, b7, b8, b9, b10⟩ := b; have := Q0.out; have := Q1.out; have := Q2.out; have := Q3.out; have := Q4.out; have := Q5.out; have := Q6.out; have := Q7.out; have := Q8.out; simp_all)); have HD9 := Aside0.mk (decide_eq_true h9); have HD10 := Aside0.mk (decide_eq_true h10)
  clear h9 h10
  go_enter Try.func64, Try.ntmps64
  go_wp2_with (first | (go_at_call 78; (with_reducible refine (eqT_calls a.f9 b.f9 _ _ _ _ _ (Kd.C_below H9.out (((Below.refl w.heap.size w).alloc (Nat.le_refl _) _).alloc (by simp) _)) (Kd.C_below G9.out (((Below.refl w.heap.size w).alloc (Nat.le_refl _) _).alloc (by simp) _)) S9.out).mono ?_); rintro e w9 ⟨rfl, hb_⟩; rw [HD9.out]; have HB9 := Aside0.mk (Below.trans (((Below.refl w.heap.size w).alloc (Nat.le_refl _) _).alloc (by simp) _) (hb_.mono (by simp; omega))); have q10 : w9.cell? ⟨w.heap.size, 10, none⟩ = some (.slice A10 a.f10.length c10) := blk_cell (two_below hb_).1 10; have p10 : w9.cell? ⟨w.heap.size + 1, 10, none⟩ = some (.slice B10 b.f10.length d10) := blk_cell (two_below hb_).2 10; clear hb_) | (go_at_call 79; (with_reducible refine (eqQ_calls a.f10 b.f10 _ _ _ _ _ (Kd.C_below H10.out (HB9.out)) (Kd.C_below G10.out (HB9.out)) S10.out).mono ?_); rintro e w10 ⟨rfl, hb_⟩; rw [HD10.out]; have HB10 := Aside0.mk (HB9.out.trans (hb_.mono HB9.out.size)); clear hb_))
  go_ret
  exact ⟨by rw [HN.out]; rfl, HB10.out⟩
end Go.Proofs.Ytbnglmeljbiglaa.Sa
set_option maxRecDepth 8192
namespace Go.Proofs.Ytbnglmeljbiglaa.Wr
open Go.Proofs.Ytbnglmeljbiglaa.Rgn
open Go.Proofs.Ytbnglmeljbiglaa.Rp Go.Proofs.Ytbnglmeljbiglaa.X4
open Go Go.RowKit Go.ChangeMaps Go.Proofs.Ytbnglmeljbiglaa.Arr Go.Proofs.Ytbnglmeljbiglaa.Ow Go.Proofs.YtbnglmeljbiglaaW.PrintWords Go.Proofs.YtbnglmeljbiglaaW.PrintLast Go.Proofs.YtbnglmeljbiglaaW.PrintMore
set_option linter.unusedVariables false
set_option linter.unusedSimpArgs false
set_option maxHeartbeats 4000000 in
theorem rrec_one (g : Nat) (s : ByteArray) (p p1 : Nat) (w : World) (h : RD w g s p) (hp : p ≤ s.size) (hs : s.size ≤ 1000000000) (h0 : smallR s p = some (1, p1)) : Calls Try.prog 92 #[.pointer (some ⟨g, 0, none⟩)] w fun x w' => AfterX g w s p x w' := by
  have HS := Aside0.mk (show s.size ≤ 1000000000000 by omega); have HL := Aside0.mk hp
  have HE := Aside0.mk (show recR s p = (numR s p1).bind fun t => (numR s t.2).bind fun v => (smallR s v.2).bind fun pg => (smallR s pg.2).bind fun o => (smallR s o.2).bind fun n => (takeR s n.2 n.1.toNat).bind fun b => (takeR s b.2 n.1.toNat).bind fun f => some (⟨1, t.1, pg.1, o.1, v.1, 0, 0, b.1, f.1, [], []⟩, f.2) by unfold recR; rw [h0, Option.bind_some]; simp only; rw [if_pos trivial])
  have HL1 := Aside0.mk (show p1 ≤ s.size from (small_some h0).2.1)
  have HP1 := Aside0.mk h0
  have HGN := Aside0.mk (show g ≠ w.heap.size from Nat.ne_of_lt (blk_lt h))
  have HGO := Aside0.mk (show ¬ One g w.heap.size from fun e => HGN.out (e : w.heap.size = g).symm)
  have HR0 := Aside0.mk (h.below ((Below.refl _ _).alloc (Nat.le_refl _) (.cells #[.int .i64 0, .int .i64 0, .int .i64 0, .int .i64 0, .int .i64 0, .int .i64 0, .int .i64 0, .string ⟨#[]⟩, .string ⟨#[]⟩, .slice none 0 0, .slice none 0 0] 37)))
  have F0 := Aside0.mk ((FS.refl (One g) w).alloc (.cells #[.int .i64 0, .int .i64 0, .int .i64 0, .int .i64 0, .int .i64 0, .int .i64 0, .int .i64 0, .string ⟨#[]⟩, .string ⟨#[]⟩, .slice none 0 0, .slice none 0 0] 37))
  have HO0 := Aside0.mk (heap_alloc_new w (.cells #[.int .i64 0, .int .i64 0, .int .i64 0, .int .i64 0, .int .i64 0, .int .i64 0, .int .i64 0, .string ⟨#[]⟩, .string ⟨#[]⟩, .slice none 0 0, .slice none 0 0] 37))
  clear h hp hs h0
  go_enter Try.func92, Try.ntmps92
  go_upto_region 1 with (fail)
  generalize w.alloc (.cells #[.int .i64 0, .int .i64 0, .int .i64 0, .int .i64 0, .int .i64 0, .int .i64 0, .int .i64 0, .string ⟨#[]⟩, .string ⟨#[]⟩, .slice none 0 0, .slice none 0 0] 37) = W1 at *
  go_upto_region 2 with (go_at_call 95; (with_reducible refine (smallr_calls g s p _ HR0.out HL.out HS.out).mono ?_); rintro e w1 hx; rw [HP1.out] at hx; obtain ⟨rfl, hk_, hf_⟩ := hx; have HR1 := Aside0.mk hk_; have F1 := Aside0.mk (F0.out.trans hf_); have HO1 := Aside0.mk (hf_.old HO0.out HGO.out); clear hk_ hf_ HR0 F0 HO0; have y0 : w1.cell? ⟨w.heap.size, 0, none⟩ = some _ := blk_cell HO1.out 0; have f0 := blk_frozen HO1.out 0)
  have HO1x := Aside0.mk (show (w1.setCell ⟨w.heap.size, 0, none⟩ (.int .i64 1)).heap[w.heap.size]? = some (.cells #[.int .i64 1, .int .i64 0, .int .i64 0, .int .i64 0, .int .i64 0, .int .i64 0, .int .i64 0, .string ⟨#[]⟩, .string ⟨#[]⟩, .slice none 0 0, .slice none 0 0] 37 (0, 0)) from set_blk HO1.out 0 (.int .i64 1))
  have HR1x := Aside0.mk (show RD (w1.setCell ⟨w.heap.size, 0, none⟩ (.int .i64 1)) g s p1 from keep_set HR1.out HGN.out 0 _)
  have F1x := Aside0.mk (FS.fresh F1.out 0 (.int .i64 1))
  have HL1x := HL1
  clear HO1 HR1 F1 y0 f0
  generalize w1.setCell ⟨w.heap.size, 0, none⟩ (.int .i64 1) = u1 at *
  have k0 : u1.cell? ⟨w.heap.size, 0, none⟩ = some (.int .i64 1) := blk_cell HO1x.out 0
  go_upto_region 7 with (fail)
  cases hp2 : numR s p1 with
  | none =>
    have HP2 := Aside0.mk hp2; clear hp2
    go_wp2_with (first | (go_at_call 96; (with_reducible refine (numr_calls g s p1 _ HR1x.out HL1x.out HS.out).mono ?_); rintro e w2 hx; rw [HP2.out] at hx; obtain ⟨rfl, hf_⟩ := hx; have F2 := Aside0.mk (F1x.out.trans hf_); clear hf_))
    refine ⟨rfl, ?_⟩
    show AfterX g w s p (gaveUp 3) _
    unfold AfterX
    rw [show recR s p = none by rw [HE.out]; simp only [HP2.out, Option.bind_some, Option.bind_none]]
    exact ⟨rfl, F2.out⟩
  | some q_ =>
  obtain ⟨t_, p2⟩ := q_
  have HL2 := Aside0.mk (show p2 ≤ s.size from (rnum_some hp2).2.1)
  have HP2 := Aside0.mk hp2; clear hp2
  cases hp3 : numR s p2 with
  | none =>
    have HP3 := Aside0.mk hp3; clear hp3
    go_wp2_with (first | (go_at_call 96; (with_reducible refine (numr_calls g s p1 _ HR1x.out HL1x.out HS.out).mono ?_); rintro e w2 hx; rw [HP2.out] at hx; obtain ⟨rfl, hk_, hf_⟩ := hx; have HR2 := Aside0.mk hk_; have F2 := Aside0.mk (F1x.out.trans hf_); have HO2 := Aside0.mk (hf_.old HO1x.out HGO.out); clear hk_ hf_ HR1x F1x HO1x) | (go_at_call 96; (with_reducible refine (numr_calls g s p2 _ HR2.out HL2.out HS.out).mono ?_); rintro e w3 hx; rw [HP3.out] at hx; obtain ⟨rfl, hf_⟩ := hx; have F3 := Aside0.mk (F2.out.trans hf_); clear hf_))
    refine ⟨rfl, ?_⟩
    show AfterX g w s p (gaveUp 3) _
    unfold AfterX
    rw [show recR s p = none by rw [HE.out]; simp only [HP2.out, HP3.out, Option.bind_some, Option.bind_none]]
    exact ⟨rfl, F3.out⟩
  | some q_ =>
  obtain ⟨v_, p3⟩ := q_
  have HL3 := Aside0.mk (show p3 ≤ s.size from (rnum_some hp3).2.1)
  have HP3 := Aside0.mk hp3; clear hp3
  go_upto_region 8 with (first | (go_at_call 96; (with_reducible refine (numr_calls g s p1 _ HR1x.out HL1x.out HS.out).mono ?_); rintro e w2 hx; rw [HP2.out] at hx; obtain ⟨rfl, hk_, hf_⟩ := hx; have HR2 := Aside0.mk hk_; have F2 := Aside0.mk (F1x.out.trans hf_); have HO2 := Aside0.mk (hf_.old HO1x.out HGO.out); clear hk_ hf_ HR1x F1x HO1x) | (go_at_call 96; (with_reducible refine (numr_calls g s p2 _ HR2.out HL2.out HS.out).mono ?_); rintro e w3 hx; rw [HP3.out] at hx; obtain ⟨rfl, hk_, hf_⟩ := hx; have HR3 := Aside0.mk hk_; have F3 := Aside0.mk (F2.out.trans hf_); have HO3 := Aside0.mk (hf_.old HO2.out HGO.out); clear hk_ hf_ HR2 F2 HO2; have y1 : w3.cell? ⟨w.heap.size, 1, none⟩ = some _ := blk_cell HO3.out 1; have f1 := blk_frozen HO3.out 1; have y4 : w3.cell? ⟨w.heap.size, 4, none⟩ = some _ := blk_cell HO3.out 4; have f4 := blk_frozen HO3.out 4))
  have HO3x := Aside0.mk (show ((w3.setCell ⟨w.heap.size, 1, none⟩ (.int .i64 t_)).setCell ⟨w.heap.size, 4, none⟩ (.int .i64 v_)).heap[w.heap.size]? = some (.cells #[.int .i64 1, .int .i64 t_, .int .i64 0, .int .i64 0, .int .i64 v_, .int .i64 0, .int .i64 0, .string ⟨#[]⟩, .string ⟨#[]⟩, .slice none 0 0, .slice none 0 0] 37 (0, 0)) from (set_blk (set_blk HO3.out 1 (.int .i64 t_)) 4 (.int .i64 v_)))
  have HR3x := Aside0.mk (show RD ((w3.setCell ⟨w.heap.size, 1, none⟩ (.int .i64 t_)).setCell ⟨w.heap.size, 4, none⟩ (.int .i64 v_)) g s p3 from (keep_set (keep_set HR3.out HGN.out 1 (.int .i64 t_)) HGN.out 4 (.int .i64 v_)))
  have F3x := Aside0.mk (FS.fresh (FS.fresh F3.out 1 (.int .i64 t_)) 4 (.int .i64 v_))
  have HL3x := HL3
  clear HO3 HR3 F3 y1 f1 y4 f4
  generalize (w3.setCell ⟨w.heap.size, 1, none⟩ (.int .i64 t_)).setCell ⟨w.heap.size, 4, none⟩ (.int .i64 v_) = u3 at *
  (try clear k0)
  have k0 : u3.cell? ⟨w.heap.size, 0, none⟩ = some (.int .i64 1) := blk_cell HO3x.out 0
  go_upto_region 12 with (fail)
  cases hp4 : smallR s p3 with
  | none =>
    have HP4 := Aside0.mk hp4; clear hp4
    go_wp2_with (first | (go_at_call 95; (with_reducible refine (smallr_calls g s p3 _ HR3x.out HL3x.out HS.out).mono ?_); rintro e w4 hx; rw [HP4.out] at hx; obtain ⟨rfl, hf_⟩ := hx; have F4 := Aside0.mk (F3x.out.trans hf_); clear hf_))
    refine ⟨rfl, ?_⟩
    show AfterX g w s p (gaveUp 3) _
    unfold AfterX
    rw [show recR s p = none by rw [HE.out]; simp only [HP2.out, HP3.out, HP4.out, Option.bind_some, Option.bind_none]]
    exact ⟨rfl, F4.out⟩
  | some q_ =>
  obtain ⟨a_, p4⟩ := q_
  have HL4 := Aside0.mk (show p4 ≤ s.size from (small_some hp4).2.1)
  have HNa_ := Aside0.mk (show 0 ≤ a_ ∧ a_ ≤ 255 from (small_some hp4).2.2)
  have HP4 := Aside0.mk hp4; clear hp4
  cases hp5 : smallR s p4 with
  | none =>
    have HP5 := Aside0.mk hp5; clear hp5
    go_wp2_with (first | (go_at_call 95; (with_reducible refine (smallr_calls g s p3 _ HR3x.out HL3x.out HS.out).mono ?_); rintro e w4 hx; rw [HP4.out] at hx; obtain ⟨rfl, hk_, hf_⟩ := hx; have HR4 := Aside0.mk hk_; have F4 := Aside0.mk (F3x.out.trans hf_); have HO4 := Aside0.mk (hf_.old HO3x.out HGO.out); clear hk_ hf_ HR3x F3x HO3x) | (go_at_call 95; (with_reducible refine (smallr_calls g s p4 _ HR4.out HL4.out HS.out).mono ?_); rintro e w5 hx; rw [HP5.out] at hx; obtain ⟨rfl, hf_⟩ := hx; have F5 := Aside0.mk (F4.out.trans hf_); clear hf_))
    refine ⟨rfl, ?_⟩
    show AfterX g w s p (gaveUp 3) _
    unfold AfterX
    rw [show recR s p = none by rw [HE.out]; simp only [HP2.out, HP3.out, HP4.out, HP5.out, Option.bind_some, Option.bind_none]]
    exact ⟨rfl, F5.out⟩
  | some q_ =>
  obtain ⟨b_, p5⟩ := q_
  have HL5 := Aside0.mk (show p5 ≤ s.size from (small_some hp5).2.1)
  have HNb_ := Aside0.mk (show 0 ≤ b_ ∧ b_ ≤ 255 from (small_some hp5).2.2)
  have HP5 := Aside0.mk hp5; clear hp5
  go_upto_region 13 with (first | (go_at_call 95; (with_reducible refine (smallr_calls g s p3 _ HR3x.out HL3x.out HS.out).mono ?_); rintro e w4 hx; rw [HP4.out] at hx; obtain ⟨rfl, hk_, hf_⟩ := hx; have HR4 := Aside0.mk hk_; have F4 := Aside0.mk (F3x.out.trans hf_); have HO4 := Aside0.mk (hf_.old HO3x.out HGO.out); clear hk_ hf_ HR3x F3x HO3x) | (go_at_call 95; (with_reducible refine (smallr_calls g s p4 _ HR4.out HL4.out HS.out).mono ?_); rintro e w5 hx; rw [HP5.out] at hx; obtain ⟨rfl, hk_, hf_⟩ := hx; have HR5 := Aside0.mk hk_; have F5 := Aside0.mk (F4.out.trans hf_); have HO5 := Aside0.mk (hf_.old HO4.out HGO.out); clear hk_ hf_ HR4 F4 HO4; have y2 : w5.cell? ⟨w.heap.size, 2, none⟩ = some _ := blk_cell HO5.out 2; have f2 := blk_frozen HO5.out 2; have y3 : w5.cell? ⟨w.heap.size, 3, none⟩ = some _ := blk_cell HO5.out 3; have f3 := blk_frozen HO5.out 3))
  have HO5x := Aside0.mk (show ((w5.setCell ⟨w.heap.size, 2, none⟩ (.int .i64 a_)).setCell ⟨w.heap.size, 3, none⟩ (.int .i64 b_)).heap[w.heap.size]? = some (.cells #[.int .i64 1, .int .i64 t_, .int .i64 a_, .int .i64 b_, .int .i64 v_, .int .i64 0, .int .i64 0, .string ⟨#[]⟩, .string ⟨#[]⟩, .slice none 0 0, .slice none 0 0] 37 (0, 0)) from (set_blk (set_blk HO5.out 2 (.int .i64 a_)) 3 (.int .i64 b_)))
  have HR5x := Aside0.mk (show RD ((w5.setCell ⟨w.heap.size, 2, none⟩ (.int .i64 a_)).setCell ⟨w.heap.size, 3, none⟩ (.int .i64 b_)) g s p5 from (keep_set (keep_set HR5.out HGN.out 2 (.int .i64 a_)) HGN.out 3 (.int .i64 b_)))
  have F5x := Aside0.mk (FS.fresh (FS.fresh F5.out 2 (.int .i64 a_)) 3 (.int .i64 b_))
  have HL5x := HL5
  clear HO5 HR5 F5 y2 f2 y3 f3
  generalize (w5.setCell ⟨w.heap.size, 2, none⟩ (.int .i64 a_)).setCell ⟨w.heap.size, 3, none⟩ (.int .i64 b_) = u5 at *
  (try clear k0)
  have k0 : u5.cell? ⟨w.heap.size, 0, none⟩ = some (.int .i64 1) := blk_cell HO5x.out 0
  cases hp6 : smallR s p5 with
  | none =>
    have HP6 := Aside0.mk hp6; clear hp6
    go_wp2_with (first | (go_at_call 95; (with_reducible refine (smallr_calls g s p5 _ HR5x.out HL5x.out HS.out).mono ?_); rintro e w6 hx; rw [HP6.out] at hx; obtain ⟨rfl, hf_⟩ := hx; have F6 := Aside0.mk (F5x.out.trans hf_); clear hf_))
    refine ⟨rfl, ?_⟩
    show AfterX g w s p (gaveUp 3) _
    unfold AfterX
    rw [show recR s p = none by rw [HE.out]; simp only [HP2.out, HP3.out, HP4.out, HP5.out, HP6.out, Option.bind_some, Option.bind_none]]
    exact ⟨rfl, F6.out⟩
  | some q_ =>
  obtain ⟨n_, p6⟩ := q_
  have HL6 := Aside0.mk (show p6 ≤ s.size from (small_some hp6).2.1)
  have HNn_ := Aside0.mk (show 0 ≤ n_ ∧ n_ ≤ 255 from (small_some hp6).2.2)
  have HP6 := Aside0.mk hp6; clear hp6
  go_upto_region 14 with (first | (go_at_call 95; (with_reducible refine (smallr_calls g s p5 _ HR5x.out HL5x.out HS.out).mono ?_); rintro e w6 hx; rw [HP6.out] at hx; obtain ⟨rfl, hk_, hf_⟩ := hx; have HR6 := Aside0.mk hk_; have F6 := Aside0.mk (F5x.out.trans hf_); have HO6 := Aside0.mk (hf_.old HO5x.out HGO.out); clear hk_ hf_ HR5x F5x HO5x))
  (try clear k0)
  have k0 : w6.cell? ⟨w.heap.size, 0, none⟩ = some (.int .i64 1) := blk_cell HO6.out 0
  go_upto_region 15 with (fail)
  cases hp7 : takeR s p6 n_.toNat with
  | none =>
    have HP7 := Aside0.mk hp7; clear hp7
    go_wp2_with (first | (go_at_call 97; (with_reducible refine (take_lit g s p6 n_.toNat n_ (Int.toNat_of_nonneg HNn_.out.1).symm _ HR6.out HL6.out HS.out (by have := HNn_.out.2; omega)).mono ?_); rintro e w7 hx; rw [HP7.out] at hx; obtain ⟨rfl, hf_⟩ := hx; have F7 := Aside0.mk (F6.out.trans hf_); clear hf_))
    refine ⟨rfl, ?_⟩
    show AfterX g w s p (gaveUp 3) _
    unfold AfterX
    rw [show recR s p = none by rw [HE.out]; simp only [HP2.out, HP3.out, HP4.out, HP5.out, HP6.out, HP7.out, Option.bind_some, Option.bind_none]]
    exact ⟨rfl, F7.out⟩
  | some q_ =>
  obtain ⟨c_, p7⟩ := q_
  have HL7 := Aside0.mk (show p7 ≤ s.size from (take_size hp7).2.2)
  have HP7 := Aside0.mk hp7; clear hp7
  go_upto_region 16 with (first | (go_at_call 97; (with_reducible refine (take_lit g s p6 n_.toNat n_ (Int.toNat_of_nonneg HNn_.out.1).symm _ HR6.out HL6.out HS.out (by have := HNn_.out.2; omega)).mono ?_); rintro e w7 hx; rw [HP7.out] at hx; obtain ⟨rfl, hk_, hf_⟩ := hx; have HR7 := Aside0.mk hk_; have F7 := Aside0.mk (F6.out.trans hf_); have HO7 := Aside0.mk (hf_.old HO6.out HGO.out); clear hk_ hf_ HR6 F6 HO6; have y7 : w7.cell? ⟨w.heap.size, 7, none⟩ = some _ := blk_cell HO7.out 7; have f7 := blk_frozen HO7.out 7))
  have HO7x := Aside0.mk (show (w7.setCell ⟨w.heap.size, 7, none⟩ (.string c_)).heap[w.heap.size]? = some (.cells #[.int .i64 1, .int .i64 t_, .int .i64 a_, .int .i64 b_, .int .i64 v_, .int .i64 0, .int .i64 0, .string c_, .string ⟨#[]⟩, .slice none 0 0, .slice none 0 0] 37 (0, 0)) from (set_blk HO7.out 7 (.string c_)))
  have HR7x := Aside0.mk (show RD (w7.setCell ⟨w.heap.size, 7, none⟩ (.string c_)) g s p7 from (keep_set HR7.out HGN.out 7 (.string c_)))
  have F7x := Aside0.mk (FS.fresh F7.out 7 (.string c_))
  have HL7x := HL7
  clear HO7 HR7 F7 y7 f7
  generalize w7.setCell ⟨w.heap.size, 7, none⟩ (.string c_) = u7 at *
  (try clear k0)
  have k0 : u7.cell? ⟨w.heap.size, 0, none⟩ = some (.int .i64 1) := blk_cell HO7x.out 0
  cases hp8 : takeR s p7 n_.toNat with
  | none =>
    have HP8 := Aside0.mk hp8; clear hp8
    go_wp2_with (first | (go_at_call 97; (with_reducible refine (take_lit g s p7 n_.toNat n_ (Int.toNat_of_nonneg HNn_.out.1).symm _ HR7x.out HL7x.out HS.out (by have := HNn_.out.2; omega)).mono ?_); rintro e w8 hx; rw [HP8.out] at hx; obtain ⟨rfl, hf_⟩ := hx; have F8 := Aside0.mk (F7x.out.trans hf_); clear hf_))
    refine ⟨rfl, ?_⟩
    show AfterX g w s p (gaveUp 3) _
    unfold AfterX
    rw [show recR s p = none by rw [HE.out]; simp only [HP2.out, HP3.out, HP4.out, HP5.out, HP6.out, HP7.out, HP8.out, Option.bind_some, Option.bind_none]]
    exact ⟨rfl, F8.out⟩
  | some q_ =>
  obtain ⟨d_, p8⟩ := q_
  have HL8 := Aside0.mk (show p8 ≤ s.size from (take_size hp8).2.2)
  have HP8 := Aside0.mk hp8; clear hp8
  go_upto_region 27 with (first | (go_at_call 97; (with_reducible refine (take_lit g s p7 n_.toNat n_ (Int.toNat_of_nonneg HNn_.out.1).symm _ HR7x.out HL7x.out HS.out (by have := HNn_.out.2; omega)).mono ?_); rintro e w8 hx; rw [HP8.out] at hx; obtain ⟨rfl, hk_, hf_⟩ := hx; have HR8 := Aside0.mk hk_; have F8 := Aside0.mk (F7x.out.trans hf_); have HO8 := Aside0.mk (hf_.old HO7x.out HGO.out); clear hk_ hf_ HR7x F7x HO7x; have y8 : w8.cell? ⟨w.heap.size, 8, none⟩ = some _ := blk_cell HO8.out 8; have f8 := blk_frozen HO8.out 8))
  have HO8x := Aside0.mk (show (w8.setCell ⟨w.heap.size, 8, none⟩ (.string d_)).heap[w.heap.size]? = some (.cells #[.int .i64 1, .int .i64 t_, .int .i64 a_, .int .i64 b_, .int .i64 v_, .int .i64 0, .int .i64 0, .string c_, .string d_, .slice none 0 0, .slice none 0 0] 37 (0, 0)) from (set_blk HO8.out 8 (.string d_)))
  have HR8x := Aside0.mk (show RD (w8.setCell ⟨w.heap.size, 8, none⟩ (.string d_)) g s p8 from (keep_set HR8.out HGN.out 8 (.string d_)))
  have F8x := Aside0.mk (FS.fresh F8.out 8 (.string d_))
  have HL8x := HL8
  clear HO8 HR8 F8 y8 f8
  generalize w8.setCell ⟨w.heap.size, 8, none⟩ (.string d_) = u8 at *
  (try clear k0)
  have k0 : u8.cell? ⟨w.heap.size, 0, none⟩ = some (.int .i64 1) := blk_cell HO8x.out 0
  clear k0
  obtain ⟨x0, f0, x1, f1, x2, f2, x3, f3, x4, f4, x5, f5, x6, f6, x7, f7, x8, f8, x9, f9, x10, f10⟩ := cellsF11 u8 (w.heap.size) HO8x.out
  have HB_ := HO8x; have HRR := HR8x; have FFF := F8x
  go_wp2
  refine bodyPost_ret (v := .agg #[.int .i64 1, .int .i64 t_, .int .i64 a_, .int .i64 b_, .int .i64 v_, .int .i64 0, .int .i64 0, .string c_, .string d_, .slice none 0 0, .slice none 0 0]) (by simp [results, Try.results92, go_sem, x0, x1, x2, x3, x4, x5, x6, x7, x8, x9, x10]) rfl ?_
  show AfterX g w s p _ _
  unfold AfterX
  rw [show recR s p = some ((⟨1, t_, a_, b_, v_, 0, 0, c_, d_, [], []⟩ : S37), p8) by rw [HE.out]; (try simp only [HP2.out, HP3.out, HP4.out, HP5.out, HP6.out, HP7.out, HP8.out, Option.bind_some])]
  refine ⟨_, _, rfl, Kd.R_nil _ _ _ _ _, Kd.R_nil _ _ _ _ _, ?_, ?_⟩
  · show RD _ g s p8
    repeat (first | (with_reducible refine RD.keep ?_ HGN.out _ _) | (with_reducible exact HRR.out))
  · repeat (first | (with_reducible refine FS.fresh ?_ _ _) | (with_reducible exact FFF.out))
end Go.Proofs.Ytbnglmeljbiglaa.Wr
set_option maxRecDepth 8192
namespace Go.Proofs.Ytbnglmeljbiglaa.Wr
open Go.Proofs.Ytbnglmeljbiglaa.Rgn
open Go.Proofs.Ytbnglmeljbiglaa.Rp Go.Proofs.Ytbnglmeljbiglaa.X4
open Go Go.RowKit Go.ChangeMaps Go.Proofs.Ytbnglmeljbiglaa.Arr Go.Proofs.Ytbnglmeljbiglaa.Ow Go.Proofs.YtbnglmeljbiglaaW.PrintWords Go.Proofs.YtbnglmeljbiglaaW.PrintLast Go.Proofs.YtbnglmeljbiglaaW.PrintMore
set_option linter.unusedVariables false
set_option linter.unusedSimpArgs false
set_option maxHeartbeats 4000000 in
theorem rrec_two (g : Nat) (s : ByteArray) (p p1 : Nat) (w : World) (h : RD w g s p) (hp : p ≤ s.size) (hs : s.size ≤ 1000000000) (h0 : smallR s p = some (2, p1)) : Calls Try.prog 92 #[.pointer (some ⟨g, 0, none⟩)] w fun x w' => AfterX g w s p x w' := by
  have HS := Aside0.mk (show s.size ≤ 1000000000000 by omega); have HL := Aside0.mk hp
  have HE := Aside0.mk (show recR s p = (numR s p1).bind fun t => (numR s t.2).bind fun v => (numR s v.2).bind fun x => (smallR s x.2).bind fun pg => (smallR s pg.2).bind fun o => (smallR s o.2).bind fun n => (takeR s n.2 n.1.toNat).bind fun f => some (⟨2, t.1, pg.1, o.1, v.1, x.1, 0, ⟨#[]⟩, f.1, [], []⟩, f.2) by unfold recR; rw [h0, Option.bind_some]; simp only; rw [if_neg (by decide), if_pos trivial])
  have HL1 := Aside0.mk (show p1 ≤ s.size from (small_some h0).2.1)
  have HP1 := Aside0.mk h0
  have HGN := Aside0.mk (show g ≠ w.heap.size from Nat.ne_of_lt (blk_lt h))
  have HGO := Aside0.mk (show ¬ One g w.heap.size from fun e => HGN.out (e : w.heap.size = g).symm)
  have HR0 := Aside0.mk (h.below ((Below.refl _ _).alloc (Nat.le_refl _) (.cells #[.int .i64 0, .int .i64 0, .int .i64 0, .int .i64 0, .int .i64 0, .int .i64 0, .int .i64 0, .string ⟨#[]⟩, .string ⟨#[]⟩, .slice none 0 0, .slice none 0 0] 37)))
  have F0 := Aside0.mk ((FS.refl (One g) w).alloc (.cells #[.int .i64 0, .int .i64 0, .int .i64 0, .int .i64 0, .int .i64 0, .int .i64 0, .int .i64 0, .string ⟨#[]⟩, .string ⟨#[]⟩, .slice none 0 0, .slice none 0 0] 37))
  have HO0 := Aside0.mk (heap_alloc_new w (.cells #[.int .i64 0, .int .i64 0, .int .i64 0, .int .i64 0, .int .i64 0, .int .i64 0, .int .i64 0, .string ⟨#[]⟩, .string ⟨#[]⟩, .slice none 0 0, .slice none 0 0] 37))
  clear h hp hs h0
  go_enter Try.func92, Try.ntmps92
  go_upto_region 1 with (fail)
  generalize w.alloc (.cells #[.int .i64 0, .int .i64 0, .int .i64 0, .int .i64 0, .int .i64 0, .int .i64 0, .int .i64 0, .string ⟨#[]⟩, .string ⟨#[]⟩, .slice none 0 0, .slice none 0 0] 37) = W1 at *
  go_upto_region 2 with (go_at_call 95; (with_reducible refine (smallr_calls g s p _ HR0.out HL.out HS.out).mono ?_); rintro e w1 hx; rw [HP1.out] at hx; obtain ⟨rfl, hk_, hf_⟩ := hx; have HR1 := Aside0.mk hk_; have F1 := Aside0.mk (F0.out.trans hf_); have HO1 := Aside0.mk (hf_.old HO0.out HGO.out); clear hk_ hf_ HR0 F0 HO0; have y0 : w1.cell? ⟨w.heap.size, 0, none⟩ = some _ := blk_cell HO1.out 0; have f0 := blk_frozen HO1.out 0)
  have HO1x := Aside0.mk (show (w1.setCell ⟨w.heap.size, 0, none⟩ (.int .i64 2)).heap[w.heap.size]? = some (.cells #[.int .i64 2, .int .i64 0, .int .i64 0, .int .i64 0, .int .i64 0, .int .i64 0, .int .i64 0, .string ⟨#[]⟩, .string ⟨#[]⟩, .slice none 0 0, .slice none 0 0] 37 (0, 0)) from set_blk HO1.out 0 (.int .i64 2))
  have HR1x := Aside0.mk (show RD (w1.setCell ⟨w.heap.size, 0, none⟩ (.int .i64 2)) g s p1 from keep_set HR1.out HGN.out 0 _)
  have F1x := Aside0.mk (FS.fresh F1.out 0 (.int .i64 2))
  have HL1x := HL1
  clear HO1 HR1 F1 y0 f0
  generalize w1.setCell ⟨w.heap.size, 0, none⟩ (.int .i64 2) = u1 at *
  have k0 : u1.cell? ⟨w.heap.size, 0, none⟩ = some (.int .i64 2) := blk_cell HO1x.out 0
  go_upto_region 7 with (fail)
  cases hp2 : numR s p1 with
  | none =>
    have HP2 := Aside0.mk hp2; clear hp2
    go_wp2_with (first | (go_at_call 96; (with_reducible refine (numr_calls g s p1 _ HR1x.out HL1x.out HS.out).mono ?_); rintro e w2 hx; rw [HP2.out] at hx; obtain ⟨rfl, hf_⟩ := hx; have F2 := Aside0.mk (F1x.out.trans hf_); clear hf_))
    refine ⟨rfl, ?_⟩
    show AfterX g w s p (gaveUp 3) _
    unfold AfterX
    rw [show recR s p = none by rw [HE.out]; simp only [HP2.out, Option.bind_some, Option.bind_none]]
    exact ⟨rfl, F2.out⟩
  | some q_ =>
  obtain ⟨t_, p2⟩ := q_
  have HL2 := Aside0.mk (show p2 ≤ s.size from (rnum_some hp2).2.1)
  have HP2 := Aside0.mk hp2; clear hp2
  cases hp3 : numR s p2 with
  | none =>
    have HP3 := Aside0.mk hp3; clear hp3
    go_wp2_with (first | (go_at_call 96; (with_reducible refine (numr_calls g s p1 _ HR1x.out HL1x.out HS.out).mono ?_); rintro e w2 hx; rw [HP2.out] at hx; obtain ⟨rfl, hk_, hf_⟩ := hx; have HR2 := Aside0.mk hk_; have F2 := Aside0.mk (F1x.out.trans hf_); have HO2 := Aside0.mk (hf_.old HO1x.out HGO.out); clear hk_ hf_ HR1x F1x HO1x) | (go_at_call 96; (with_reducible refine (numr_calls g s p2 _ HR2.out HL2.out HS.out).mono ?_); rintro e w3 hx; rw [HP3.out] at hx; obtain ⟨rfl, hf_⟩ := hx; have F3 := Aside0.mk (F2.out.trans hf_); clear hf_))
    refine ⟨rfl, ?_⟩
    show AfterX g w s p (gaveUp 3) _
    unfold AfterX
    rw [show recR s p = none by rw [HE.out]; simp only [HP2.out, HP3.out, Option.bind_some, Option.bind_none]]
    exact ⟨rfl, F3.out⟩
  | some q_ =>
  obtain ⟨v_, p3⟩ := q_
  have HL3 := Aside0.mk (show p3 ≤ s.size from (rnum_some hp3).2.1)
  have HP3 := Aside0.mk hp3; clear hp3
  go_upto_region 8 with (first | (go_at_call 96; (with_reducible refine (numr_calls g s p1 _ HR1x.out HL1x.out HS.out).mono ?_); rintro e w2 hx; rw [HP2.out] at hx; obtain ⟨rfl, hk_, hf_⟩ := hx; have HR2 := Aside0.mk hk_; have F2 := Aside0.mk (F1x.out.trans hf_); have HO2 := Aside0.mk (hf_.old HO1x.out HGO.out); clear hk_ hf_ HR1x F1x HO1x) | (go_at_call 96; (with_reducible refine (numr_calls g s p2 _ HR2.out HL2.out HS.out).mono ?_); rintro e w3 hx; rw [HP3.out] at hx; obtain ⟨rfl, hk_, hf_⟩ := hx; have HR3 := Aside0.mk hk_; have F3 := Aside0.mk (F2.out.trans hf_); have HO3 := Aside0.mk (hf_.old HO2.out HGO.out); clear hk_ hf_ HR2 F2 HO2; have y1 : w3.cell? ⟨w.heap.size, 1, none⟩ = some _ := blk_cell HO3.out 1; have f1 := blk_frozen HO3.out 1; have y4 : w3.cell? ⟨w.heap.size, 4, none⟩ = some _ := blk_cell HO3.out 4; have f4 := blk_frozen HO3.out 4))
  have HO3x := Aside0.mk (show ((w3.setCell ⟨w.heap.size, 1, none⟩ (.int .i64 t_)).setCell ⟨w.heap.size, 4, none⟩ (.int .i64 v_)).heap[w.heap.size]? = some (.cells #[.int .i64 2, .int .i64 t_, .int .i64 0, .int .i64 0, .int .i64 v_, .int .i64 0, .int .i64 0, .string ⟨#[]⟩, .string ⟨#[]⟩, .slice none 0 0, .slice none 0 0] 37 (0, 0)) from (set_blk (set_blk HO3.out 1 (.int .i64 t_)) 4 (.int .i64 v_)))
  have HR3x := Aside0.mk (show RD ((w3.setCell ⟨w.heap.size, 1, none⟩ (.int .i64 t_)).setCell ⟨w.heap.size, 4, none⟩ (.int .i64 v_)) g s p3 from (keep_set (keep_set HR3.out HGN.out 1 (.int .i64 t_)) HGN.out 4 (.int .i64 v_)))
  have F3x := Aside0.mk (FS.fresh (FS.fresh F3.out 1 (.int .i64 t_)) 4 (.int .i64 v_))
  have HL3x := HL3
  clear HO3 HR3 F3 y1 f1 y4 f4
  generalize (w3.setCell ⟨w.heap.size, 1, none⟩ (.int .i64 t_)).setCell ⟨w.heap.size, 4, none⟩ (.int .i64 v_) = u3 at *
  (try clear k0)
  have k0 : u3.cell? ⟨w.heap.size, 0, none⟩ = some (.int .i64 2) := blk_cell HO3x.out 0
  go_upto_region 9 with (fail)
  cases hp4 : numR s p3 with
  | none =>
    have HP4 := Aside0.mk hp4; clear hp4
    go_wp2_with (first | (go_at_call 96; (with_reducible refine (numr_calls g s p3 _ HR3x.out HL3x.out HS.out).mono ?_); rintro e w4 hx; rw [HP4.out] at hx; obtain ⟨rfl, hf_⟩ := hx; have F4 := Aside0.mk (F3x.out.trans hf_); clear hf_))
    refine ⟨rfl, ?_⟩
    show AfterX g w s p (gaveUp 3) _
    unfold AfterX
    rw [show recR s p = none by rw [HE.out]; simp only [HP2.out, HP3.out, HP4.out, Option.bind_some, Option.bind_none]]
    exact ⟨rfl, F4.out⟩
  | some q_ =>
  obtain ⟨x_, p4⟩ := q_
  have HL4 := Aside0.mk (show p4 ≤ s.size from (rnum_some hp4).2.1)
  have HP4 := Aside0.mk hp4; clear hp4
  go_upto_region 10 with (first | (go_at_call 96; (with_reducible refine (numr_calls g s p3 _ HR3x.out HL3x.out HS.out).mono ?_); rintro e w4 hx; rw [HP4.out] at hx; obtain ⟨rfl, hk_, hf_⟩ := hx; have HR4 := Aside0.mk hk_; have F4 := Aside0.mk (F3x.out.trans hf_); have HO4 := Aside0.mk (hf_.old HO3x.out HGO.out); clear hk_ hf_ HR3x F3x HO3x; have y5 : w4.cell? ⟨w.heap.size, 5, none⟩ = some _ := blk_cell HO4.out 5; have f5 := blk_frozen HO4.out 5))
  have HO4x := Aside0.mk (show (w4.setCell ⟨w.heap.size, 5, none⟩ (.int .i64 x_)).heap[w.heap.size]? = some (.cells #[.int .i64 2, .int .i64 t_, .int .i64 0, .int .i64 0, .int .i64 v_, .int .i64 x_, .int .i64 0, .string ⟨#[]⟩, .string ⟨#[]⟩, .slice none 0 0, .slice none 0 0] 37 (0, 0)) from (set_blk HO4.out 5 (.int .i64 x_)))
  have HR4x := Aside0.mk (show RD (w4.setCell ⟨w.heap.size, 5, none⟩ (.int .i64 x_)) g s p4 from (keep_set HR4.out HGN.out 5 (.int .i64 x_)))
  have F4x := Aside0.mk (FS.fresh F4.out 5 (.int .i64 x_))
  have HL4x := HL4
  clear HO4 HR4 F4 y5 f5
  generalize w4.setCell ⟨w.heap.size, 5, none⟩ (.int .i64 x_) = u4 at *
  (try clear k0)
  have k0 : u4.cell? ⟨w.heap.size, 0, none⟩ = some (.int .i64 2) := blk_cell HO4x.out 0
  go_upto_region 12 with (fail)
  cases hp5 : smallR s p4 with
  | none =>
    have HP5 := Aside0.mk hp5; clear hp5
    go_wp2_with (first | (go_at_call 95; (with_reducible refine (smallr_calls g s p4 _ HR4x.out HL4x.out HS.out).mono ?_); rintro e w5 hx; rw [HP5.out] at hx; obtain ⟨rfl, hf_⟩ := hx; have F5 := Aside0.mk (F4x.out.trans hf_); clear hf_))
    refine ⟨rfl, ?_⟩
    show AfterX g w s p (gaveUp 3) _
    unfold AfterX
    rw [show recR s p = none by rw [HE.out]; simp only [HP2.out, HP3.out, HP4.out, HP5.out, Option.bind_some, Option.bind_none]]
    exact ⟨rfl, F5.out⟩
  | some q_ =>
  obtain ⟨a_, p5⟩ := q_
  have HL5 := Aside0.mk (show p5 ≤ s.size from (small_some hp5).2.1)
  have HNa_ := Aside0.mk (show 0 ≤ a_ ∧ a_ ≤ 255 from (small_some hp5).2.2)
  have HP5 := Aside0.mk hp5; clear hp5
  cases hp6 : smallR s p5 with
  | none =>
    have HP6 := Aside0.mk hp6; clear hp6
    go_wp2_with (first | (go_at_call 95; (with_reducible refine (smallr_calls g s p4 _ HR4x.out HL4x.out HS.out).mono ?_); rintro e w5 hx; rw [HP5.out] at hx; obtain ⟨rfl, hk_, hf_⟩ := hx; have HR5 := Aside0.mk hk_; have F5 := Aside0.mk (F4x.out.trans hf_); have HO5 := Aside0.mk (hf_.old HO4x.out HGO.out); clear hk_ hf_ HR4x F4x HO4x) | (go_at_call 95; (with_reducible refine (smallr_calls g s p5 _ HR5.out HL5.out HS.out).mono ?_); rintro e w6 hx; rw [HP6.out] at hx; obtain ⟨rfl, hf_⟩ := hx; have F6 := Aside0.mk (F5.out.trans hf_); clear hf_))
    refine ⟨rfl, ?_⟩
    show AfterX g w s p (gaveUp 3) _
    unfold AfterX
    rw [show recR s p = none by rw [HE.out]; simp only [HP2.out, HP3.out, HP4.out, HP5.out, HP6.out, Option.bind_some, Option.bind_none]]
    exact ⟨rfl, F6.out⟩
  | some q_ =>
  obtain ⟨b_, p6⟩ := q_
  have HL6 := Aside0.mk (show p6 ≤ s.size from (small_some hp6).2.1)
  have HNb_ := Aside0.mk (show 0 ≤ b_ ∧ b_ ≤ 255 from (small_some hp6).2.2)
  have HP6 := Aside0.mk hp6; clear hp6
  go_upto_region 13 with (first | (go_at_call 95; (with_reducible refine (smallr_calls g s p4 _ HR4x.out HL4x.out HS.out).mono ?_); rintro e w5 hx; rw [HP5.out] at hx; obtain ⟨rfl, hk_, hf_⟩ := hx; have HR5 := Aside0.mk hk_; have F5 := Aside0.mk (F4x.out.trans hf_); have HO5 := Aside0.mk (hf_.old HO4x.out HGO.out); clear hk_ hf_ HR4x F4x HO4x) | (go_at_call 95; (with_reducible refine (smallr_calls g s p5 _ HR5.out HL5.out HS.out).mono ?_); rintro e w6 hx; rw [HP6.out] at hx; obtain ⟨rfl, hk_, hf_⟩ := hx; have HR6 := Aside0.mk hk_; have F6 := Aside0.mk (F5.out.trans hf_); have HO6 := Aside0.mk (hf_.old HO5.out HGO.out); clear hk_ hf_ HR5 F5 HO5; have y2 : w6.cell? ⟨w.heap.size, 2, none⟩ = some _ := blk_cell HO6.out 2; have f2 := blk_frozen HO6.out 2; have y3 : w6.cell? ⟨w.heap.size, 3, none⟩ = some _ := blk_cell HO6.out 3; have f3 := blk_frozen HO6.out 3))
  have HO6x := Aside0.mk (show ((w6.setCell ⟨w.heap.size, 2, none⟩ (.int .i64 a_)).setCell ⟨w.heap.size, 3, none⟩ (.int .i64 b_)).heap[w.heap.size]? = some (.cells #[.int .i64 2, .int .i64 t_, .int .i64 a_, .int .i64 b_, .int .i64 v_, .int .i64 x_, .int .i64 0, .string ⟨#[]⟩, .string ⟨#[]⟩, .slice none 0 0, .slice none 0 0] 37 (0, 0)) from (set_blk (set_blk HO6.out 2 (.int .i64 a_)) 3 (.int .i64 b_)))
  have HR6x := Aside0.mk (show RD ((w6.setCell ⟨w.heap.size, 2, none⟩ (.int .i64 a_)).setCell ⟨w.heap.size, 3, none⟩ (.int .i64 b_)) g s p6 from (keep_set (keep_set HR6.out HGN.out 2 (.int .i64 a_)) HGN.out 3 (.int .i64 b_)))
  have F6x := Aside0.mk (FS.fresh (FS.fresh F6.out 2 (.int .i64 a_)) 3 (.int .i64 b_))
  have HL6x := HL6
  clear HO6 HR6 F6 y2 f2 y3 f3
  generalize (w6.setCell ⟨w.heap.size, 2, none⟩ (.int .i64 a_)).setCell ⟨w.heap.size, 3, none⟩ (.int .i64 b_) = u6 at *
  (try clear k0)
  have k0 : u6.cell? ⟨w.heap.size, 0, none⟩ = some (.int .i64 2) := blk_cell HO6x.out 0
  cases hp7 : smallR s p6 with
  | none =>
    have HP7 := Aside0.mk hp7; clear hp7
    go_wp2_with (first | (go_at_call 95; (with_reducible refine (smallr_calls g s p6 _ HR6x.out HL6x.out HS.out).mono ?_); rintro e w7 hx; rw [HP7.out] at hx; obtain ⟨rfl, hf_⟩ := hx; have F7 := Aside0.mk (F6x.out.trans hf_); clear hf_))
    refine ⟨rfl, ?_⟩
    show AfterX g w s p (gaveUp 3) _
    unfold AfterX
    rw [show recR s p = none by rw [HE.out]; simp only [HP2.out, HP3.out, HP4.out, HP5.out, HP6.out, HP7.out, Option.bind_some, Option.bind_none]]
    exact ⟨rfl, F7.out⟩
  | some q_ =>
  obtain ⟨n_, p7⟩ := q_
  have HL7 := Aside0.mk (show p7 ≤ s.size from (small_some hp7).2.1)
  have HNn_ := Aside0.mk (show 0 ≤ n_ ∧ n_ ≤ 255 from (small_some hp7).2.2)
  have HP7 := Aside0.mk hp7; clear hp7
  go_upto_region 14 with (first | (go_at_call 95; (with_reducible refine (smallr_calls g s p6 _ HR6x.out HL6x.out HS.out).mono ?_); rintro e w7 hx; rw [HP7.out] at hx; obtain ⟨rfl, hk_, hf_⟩ := hx; have HR7 := Aside0.mk hk_; have F7 := Aside0.mk (F6x.out.trans hf_); have HO7 := Aside0.mk (hf_.old HO6x.out HGO.out); clear hk_ hf_ HR6x F6x HO6x))
  (try clear k0)
  have k0 : w7.cell? ⟨w.heap.size, 0, none⟩ = some (.int .i64 2) := blk_cell HO7.out 0
  go_upto_region 16 with (fail)
  cases hp8 : takeR s p7 n_.toNat with
  | none =>
    have HP8 := Aside0.mk hp8; clear hp8
    go_wp2_with (first | (go_at_call 97; (with_reducible refine (take_lit g s p7 n_.toNat n_ (Int.toNat_of_nonneg HNn_.out.1).symm _ HR7.out HL7.out HS.out (by have := HNn_.out.2; omega)).mono ?_); rintro e w8 hx; rw [HP8.out] at hx; obtain ⟨rfl, hf_⟩ := hx; have F8 := Aside0.mk (F7.out.trans hf_); clear hf_))
    refine ⟨rfl, ?_⟩
    show AfterX g w s p (gaveUp 3) _
    unfold AfterX
    rw [show recR s p = none by rw [HE.out]; simp only [HP2.out, HP3.out, HP4.out, HP5.out, HP6.out, HP7.out, HP8.out, Option.bind_some, Option.bind_none]]
    exact ⟨rfl, F8.out⟩
  | some q_ =>
  obtain ⟨d_, p8⟩ := q_
  have HL8 := Aside0.mk (show p8 ≤ s.size from (take_size hp8).2.2)
  have HP8 := Aside0.mk hp8; clear hp8
  go_upto_region 27 with (first | (go_at_call 97; (with_reducible refine (take_lit g s p7 n_.toNat n_ (Int.toNat_of_nonneg HNn_.out.1).symm _ HR7.out HL7.out HS.out (by have := HNn_.out.2; omega)).mono ?_); rintro e w8 hx; rw [HP8.out] at hx; obtain ⟨rfl, hk_, hf_⟩ := hx; have HR8 := Aside0.mk hk_; have F8 := Aside0.mk (F7.out.trans hf_); have HO8 := Aside0.mk (hf_.old HO7.out HGO.out); clear hk_ hf_ HR7 F7 HO7; have y8 : w8.cell? ⟨w.heap.size, 8, none⟩ = some _ := blk_cell HO8.out 8; have f8 := blk_frozen HO8.out 8))
  have HO8x := Aside0.mk (show (w8.setCell ⟨w.heap.size, 8, none⟩ (.string d_)).heap[w.heap.size]? = some (.cells #[.int .i64 2, .int .i64 t_, .int .i64 a_, .int .i64 b_, .int .i64 v_, .int .i64 x_, .int .i64 0, .string ⟨#[]⟩, .string d_, .slice none 0 0, .slice none 0 0] 37 (0, 0)) from (set_blk HO8.out 8 (.string d_)))
  have HR8x := Aside0.mk (show RD (w8.setCell ⟨w.heap.size, 8, none⟩ (.string d_)) g s p8 from (keep_set HR8.out HGN.out 8 (.string d_)))
  have F8x := Aside0.mk (FS.fresh F8.out 8 (.string d_))
  have HL8x := HL8
  clear HO8 HR8 F8 y8 f8
  generalize w8.setCell ⟨w.heap.size, 8, none⟩ (.string d_) = u8 at *
  (try clear k0)
  have k0 : u8.cell? ⟨w.heap.size, 0, none⟩ = some (.int .i64 2) := blk_cell HO8x.out 0
  clear k0
  obtain ⟨x0, f0, x1, f1, x2, f2, x3, f3, x4, f4, x5, f5, x6, f6, x7, f7, x8, f8, x9, f9, x10, f10⟩ := cellsF11 u8 (w.heap.size) HO8x.out
  have HB_ := HO8x; have HRR := HR8x; have FFF := F8x
  go_wp2
  refine bodyPost_ret (v := .agg #[.int .i64 2, .int .i64 t_, .int .i64 a_, .int .i64 b_, .int .i64 v_, .int .i64 x_, .int .i64 0, .string ⟨#[]⟩, .string d_, .slice none 0 0, .slice none 0 0]) (by simp [results, Try.results92, go_sem, x0, x1, x2, x3, x4, x5, x6, x7, x8, x9, x10]) rfl ?_
  show AfterX g w s p _ _
  unfold AfterX
  rw [show recR s p = some ((⟨2, t_, a_, b_, v_, x_, 0, ⟨#[]⟩, d_, [], []⟩ : S37), p8) by rw [HE.out]; (try simp only [HP2.out, HP3.out, HP4.out, HP5.out, HP6.out, HP7.out, HP8.out, Option.bind_some])]
  refine ⟨_, _, rfl, Kd.R_nil _ _ _ _ _, Kd.R_nil _ _ _ _ _, ?_, ?_⟩
  · show RD _ g s p8
    repeat (first | (with_reducible refine RD.keep ?_ HGN.out _ _) | (with_reducible exact HRR.out))
  · repeat (first | (with_reducible refine FS.fresh ?_ _ _) | (with_reducible exact FFF.out))
set_option maxHeartbeats 4000000 in
theorem rrec_none (g : Nat) (s : ByteArray) (p p1 : Nat) (v0 : Int) (hk : v0 ≠ 1 ∧ v0 ≠ 2 ∧ ¬ (v0 = 3 ∨ v0 = 4) ∧ v0 ≠ 6) (w : World) (h : RD w g s p) (hp : p ≤ s.size) (hs : s.size ≤ 1000000000) (h0 : smallR s p = some (v0, p1)) : Calls Try.prog 92 #[.pointer (some ⟨g, 0, none⟩)] w fun x w' => AfterX g w s p x w' := by
  have HS := Aside0.mk (show s.size ≤ 1000000000000 by omega); have HL := Aside0.mk hp
  have HE := Aside0.mk (show recR s p = some (⟨v0, 0, 0, 0, 0, 0, 0, ⟨#[]⟩, ⟨#[]⟩, [], []⟩, p1) by unfold recR; rw [h0, Option.bind_some]; simp only; rw [if_neg hk.1, if_neg hk.2.1, if_neg hk.2.2.1, if_neg hk.2.2.2])
  have HL1 := Aside0.mk (show p1 ≤ s.size from (small_some h0).2.1)
  have HP1 := Aside0.mk h0
  have HGN := Aside0.mk (show g ≠ w.heap.size from Nat.ne_of_lt (blk_lt h))
  have HGO := Aside0.mk (show ¬ One g w.heap.size from fun e => HGN.out (e : w.heap.size = g).symm)
  have HR0 := Aside0.mk (h.below ((Below.refl _ _).alloc (Nat.le_refl _) (.cells #[.int .i64 0, .int .i64 0, .int .i64 0, .int .i64 0, .int .i64 0, .int .i64 0, .int .i64 0, .string ⟨#[]⟩, .string ⟨#[]⟩, .slice none 0 0, .slice none 0 0] 37)))
  have F0 := Aside0.mk ((FS.refl (One g) w).alloc (.cells #[.int .i64 0, .int .i64 0, .int .i64 0, .int .i64 0, .int .i64 0, .int .i64 0, .int .i64 0, .string ⟨#[]⟩, .string ⟨#[]⟩, .slice none 0 0, .slice none 0 0] 37))
  have HO0 := Aside0.mk (heap_alloc_new w (.cells #[.int .i64 0, .int .i64 0, .int .i64 0, .int .i64 0, .int .i64 0, .int .i64 0, .int .i64 0, .string ⟨#[]⟩, .string ⟨#[]⟩, .slice none 0 0, .slice none 0 0] 37))
  have e1 : (v0 == 1) = false := by rw [beq_eq_false_iff_ne]; exact hk.1
  have e2 : (v0 == 2) = false := by rw [beq_eq_false_iff_ne]; exact hk.2.1
  have e3 : (v0 == 3) = false := by rw [beq_eq_false_iff_ne]; omega
  have e4 : (v0 == 4) = false := by rw [beq_eq_false_iff_ne]; omega
  have e6 : (v0 == 6) = false := by rw [beq_eq_false_iff_ne]; exact hk.2.2.2
  clear h hp hs h0 hk
  go_enter Try.func92, Try.ntmps92
  go_upto_region 1 with (fail)
  generalize w.alloc (.cells #[.int .i64 0, .int .i64 0, .int .i64 0, .int .i64 0, .int .i64 0, .int .i64 0, .int .i64 0, .string ⟨#[]⟩, .string ⟨#[]⟩, .slice none 0 0, .slice none 0 0] 37) = W1 at *
  go_upto_region 2 with (go_at_call 95; (with_reducible refine (smallr_calls g s p _ HR0.out HL.out HS.out).mono ?_); rintro e w1 hx; rw [HP1.out] at hx; obtain ⟨rfl, hk_, hf_⟩ := hx; have HR1 := Aside0.mk hk_; have F1 := Aside0.mk (F0.out.trans hf_); have HO1 := Aside0.mk (hf_.old HO0.out HGO.out); clear hk_ hf_ HR0 F0 HO0; have y0 : w1.cell? ⟨w.heap.size, 0, none⟩ = some _ := blk_cell HO1.out 0; have f0 := blk_frozen HO1.out 0)
  have HO1x := Aside0.mk (show (w1.setCell ⟨w.heap.size, 0, none⟩ (.int .i64 v0)).heap[w.heap.size]? = some (.cells #[.int .i64 v0, .int .i64 0, .int .i64 0, .int .i64 0, .int .i64 0, .int .i64 0, .int .i64 0, .string ⟨#[]⟩, .string ⟨#[]⟩, .slice none 0 0, .slice none 0 0] 37 (0, 0)) from set_blk HO1.out 0 (.int .i64 v0))
  have HR1x := Aside0.mk (show RD (w1.setCell ⟨w.heap.size, 0, none⟩ (.int .i64 v0)) g s p1 from keep_set HR1.out HGN.out 0 _)
  have F1x := Aside0.mk (FS.fresh F1.out 0 (.int .i64 v0))
  have HL1x := HL1
  clear HO1 HR1 F1 y0 f0
  generalize w1.setCell ⟨w.heap.size, 0, none⟩ (.int .i64 v0) = u1 at *
  have k0 : u1.cell? ⟨w.heap.size, 0, none⟩ = some (.int .i64 v0) := blk_cell HO1x.out 0
  go_upto_region 27 with (fail)
  clear k0
  obtain ⟨x0, f0, x1, f1, x2, f2, x3, f3, x4, f4, x5, f5, x6, f6, x7, f7, x8, f8, x9, f9, x10, f10⟩ := cellsF11 u1 (w.heap.size) HO1x.out
  have HB_ := HO1x; have HRR := HR1x; have FFF := F1x
  go_wp2
  refine bodyPost_ret (v := .agg #[.int .i64 v0, .int .i64 0, .int .i64 0, .int .i64 0, .int .i64 0, .int .i64 0, .int .i64 0, .string ⟨#[]⟩, .string ⟨#[]⟩, .slice none 0 0, .slice none 0 0]) (by simp [results, Try.results92, go_sem, x0, x1, x2, x3, x4, x5, x6, x7, x8, x9, x10]) rfl ?_
  show AfterX g w s p _ _
  unfold AfterX
  rw [show recR s p = some ((⟨v0, 0, 0, 0, 0, 0, 0, ⟨#[]⟩, ⟨#[]⟩, [], []⟩ : S37), p1) by rw [HE.out]; (try simp only [Option.bind_some])]
  refine ⟨_, _, rfl, Kd.R_nil _ _ _ _ _, Kd.R_nil _ _ _ _ _, ?_, ?_⟩
  · show RD _ g s p1
    repeat (first | (with_reducible refine RD.keep ?_ HGN.out _ _) | (with_reducible exact HRR.out))
  · repeat (first | (with_reducible refine FS.fresh ?_ _ _) | (with_reducible exact FFF.out))
end Go.Proofs.Ytbnglmeljbiglaa.Wr
set_option maxRecDepth 8192
namespace Go.Proofs.Ytbnglmeljbiglaa.Wr
open Go.Proofs.Ytbnglmeljbiglaa.Rp Go.Proofs.Ytbnglmeljbiglaa.X4
open Go Go.RowKit Go.ChangeMaps Go.Proofs.Ytbnglmeljbiglaa.Arr Go.Proofs.Ytbnglmeljbiglaa.Ow Go.Proofs.YtbnglmeljbiglaaW.PrintWords Go.Proofs.YtbnglmeljbiglaaW.PrintLast Go.Proofs.YtbnglmeljbiglaaW.PrintMore
set_option linter.unusedVariables false
set_option linter.unusedSimpArgs false
theorem ap_ {P : Program} {ops : Array Oper} {Q : Exit → Act → World → Prop} {oi : Oper} {N : Option Tmp} {a : Act} {w w1 : World} {v : Value} {K : Act → World → Prop} (s x : Operand) (t : TypeId) (hw : Region.wanted oi (yielded ops a.tmps) = true) (hN : oi.dst = N)
    (ho : oi.op = .call { callee := .builtin .append, args := #[s, x], argTypes := #[t, t] }) (v1 v2 : Value) (hs : a.eval s = v1) (hx : a.eval x = v2) (hr : (Builtin.append_ #[t, t] oi.type #[v1, v2]).run P w = .ok v w1)
    (h : K (a.put N v) w1) : if Region.wanted oi (yielded ops a.tmps) = true then Oper.wp P oi a w K Q else K (a.put N undef) w := by
  refine value_ hw hN ?_ h
  unfold execOp
  simp only [ho, resolve, invoke, builtin, Sem.run_bind, Sem.run_pure, Result.andThen_ok, List.map_toArray, List.map_cons, List.map_nil, hs, hx, hr]
theorem ow_ne2 {w : World} {S S2 : Nat → Prop} {e e2 : TypeId} {sz sz2 : Nat} {v v2 : Value} {n n2 : Nat} {xs xs2 : List Value} (h : Ow w S e sz v n xs) (h2 : Ow w S2 e2 sz2 v2 n2 xs2) (ht : e2 ≠ e) : ∀ k, v.ownBlock = some k → v2.ownBlock ≠ some k := fun k hk e1 => by
  rcases h2.own.2 with ⟨rfl, _⟩ | ⟨g', cap, cur, rfl, _, hg, _⟩
  · cases e1
  · injection e1 with e1
    subst e1
    exact ow_ne h hg ht _ hk rfl
theorem Ow.far {w : World} {S : Nat → Prop} {e T : TypeId} {sz : Nat} {v : Value} {n : Nat} {xs : List Value} {o : Nat} {cs : Array Value} (h : Ow w S e sz v n xs) (hb : w.heap[o]? = some (.cells cs T (0, 0))) (hT : T ≠ e) (j : Nat) (u : Value) : Ow (w.setCell ⟨o, j, none⟩ u) S e sz v n xs :=
  h.same fun k hk => Below.heap_setCell w ⟨o, j, none⟩ u k (ow_ne h hb hT k hk)
theorem Ow.based {w : World} {S : Nat → Prop} {e : TypeId} {sz : Nat} {v : Value} {n : Nat} {xs : List Value} (h : Ow w S e sz v n xs) {B : Nat} (hB : ∀ k, S k → B ≤ k) : w.ownsRow B e sz v n xs := by
  refine ⟨h.own.1, ?_⟩
  rcases h.own.2 with h1 | ⟨g', cap, cur, rfl, _, r⟩
  · exact .inl h1
  · exact .inr ⟨g', cap, cur, rfl, hB g' (h.mem g' rfl), r⟩
theorem ow_fresh {w : World} {S : Nat → Prop} {e T : TypeId} {sz : Nat} {v : Value} {n : Nat} {xs : List Value} {o : Nat} (h : Ow w S e sz v n xs) (hT : T ≠ e) (j : Nat) (u : Value) (hb : ∃ cs, w.heap[o]? = some (.cells cs T (0, 0))) : Ow (w.setCell ⟨o, j, none⟩ u) S e sz v n xs := by
  obtain ⟨cs, hb⟩ := hb
  exact Wr.Ow.far h hb hT j u
theorem cells_kept {w : World} {T : TypeId} {o : Nat} (hb : ∃ cs, w.heap[o]? = some (.cells cs T (0, 0))) (j : Nat) (u : Value) : ∃ cs, (w.setCell ⟨o, j, none⟩ u).heap[o]? = some (.cells cs T (0, 0)) := by
  obtain ⟨cs, hb⟩ := hb
  exact ⟨_, set_blk hb j u⟩
abbrev From (B : Nat) : Nat → Prop := fun k => B ≤ k
def flatT (L : List S107) : List Value := L.flatMap fun x => [.int .i64 x.f0, .int .i64 x.f1, .int .i64 x.f2]
theorem infoT : (Try.prog.info? 107).map (fun i => (i.zero, i.size, i.bytes)) = some (some (.agg #[.int .i64 0, .int .i64 0, .int .i64 0]), 3, 24) := by kernel_rfl
theorem flatT_snoc (L : List S107) (x : S107) : flatT (L ++ [x]) = flatT L ++ [.int .i64 x.f0, .int .i64 x.f1, .int .i64 x.f2] := by unfold flatT; rw [List.flatMap_append]; rfl
theorem push_rowT {w : World} {S : Nat → Prop} {v : Value} (L : List S107) (x : S107) (h : Ow w S 107 3 v L.length (flatT L)) (hl : L.length ≤ 1000000) {nb : Nat} (hnb : w.heap[nb]? = some (.cells #[.int .i64 x.f0, .int .i64 x.f1, .int .i64 x.f2] 107 (0, 0))) (ty : TypeId) :
    ∃ v' w', (Builtin.append_ #[34, 34] ty #[v, .slice (some ⟨nb, 0, none⟩) 1 1]).run Try.prog w = .ok v' w' ∧ Ow w' (fun k => S k ∨ k = w.heap.size) 107 3 v' (L ++ [x]).length (flatT (L ++ [x])) ∧ w.grownBy w' v.ownBlock ∧ ∃ g' c', v' = .slice (some ⟨g', 0, none⟩) (L.length + 1) c' := by
  obtain ⟨i0, hi0, h2⟩ := Option.map_eq_some_iff.1 infoT
  have hz : i0.zero = some (.agg #[.int .i64 0, .int .i64 0, .int .i64 0]) := congrArg Prod.fst h2
  have hs : i0.size = 3 := congrArg (fun p => p.2.1) h2
  have hb : i0.bytes = 24 := congrArg (fun p => p.2.2) h2
  obtain ⟨v', w', r1, r2, r3, _, r5⟩ := run_append_ow (P := Try.prog) (ty := ty) 34 107 i0 _ 3 24 (by kernel_rfl) hi0 hz hs hb rfl (by decide) v L.length _ h ⟨nb, 0, none⟩ 1 1 [.int .i64 x.f0, .int .i64 x.f1, .int .i64 x.f2] rfl (fun j u hj => by
    rw [add_plain]
    exact (blk_cell hnb j).trans (by simpa using hj)) (fun u hu => by
    simp only [List.mem_cons, List.not_mem_nil, or_false] at hu
    rcases hu with rfl | rfl | rfl <;> rfl) (by simp only [maxLen]; omega) (by omega) (by decide)
  refine ⟨v', w', r1, ?_, r3, r5⟩
  rw [List.length_append, flatT_snoc]
  exact r2
theorem ow_RT {w : World} {S : Nat → Prop} {v : Value} {L : List S107} {B : Nat} (h : Ow w S 107 3 v L.length (flatT L)) (hB : ∀ k, S k → B ≤ k) : Kd.R k107 107 w B (fun _ => True) v L := by
  refine ⟨fun _ _ => trivial, flatT L, Wr.Ow.based h hB, ?_⟩
  have key : ∀ M : List S107, Reps (k107.M w B (fun k => True ∧ some k ≠ v.ownBlock)) 3 M.reverse (flatT M.reverse) := fun M => by
    induction M with
    | nil => exact Reps.none _ _
    | cons x t ih =>
      rw [List.reverse_cons, flatT_snoc]
      exact ih.snoc (k107_mkM _ _ _ x) rfl
  have := key L.reverse
  rwa [List.reverse_reverse] at this
theorem rowsT_none {s : ByteArray} {p k q n : Nat} {L : List S107} (h : rowsT s k p = some (L, q)) (h1 : rowT1 s q = none) (hk : k < n) : rowsT s n p = none := by
  induction n with
  | zero => omega
  | succ n ih =>
    simp only [rowsT]
    by_cases e : k = n
    · subst e
      rw [h]
      simp only [Option.bind_some, h1]
      rfl
    · rw [ih (by omega)]
      rfl
theorem rowsT_succ {s : ByteArray} {p k q : Nat} {L : List S107} {x : S107} {q2 : Nat} (h : rowsT s k p = some (L, q)) (h1 : rowT1 s q = some (x, q2)) : rowsT s (k + 1) p = some (L ++ [x], q2) := by
  simp only [rowsT, h, Option.bind_some, h1]
def flatQ (L : List S109) : List Value := L.flatMap fun x => [.int .i64 x.f0, .int .i64 x.f1]
theorem infoQ : (Try.prog.info? 109).map (fun i => (i.zero, i.size, i.bytes)) = some (some (.agg #[.int .i64 0, .int .i64 0]), 2, 16) := by kernel_rfl
theorem flatQ_snoc (L : List S109) (x : S109) : flatQ (L ++ [x]) = flatQ L ++ [.int .i64 x.f0, .int .i64 x.f1] := by unfold flatQ; rw [List.flatMap_append]; rfl
theorem push_rowQ {w : World} {S : Nat → Prop} {v : Value} (L : List S109) (x : S109) (h : Ow w S 109 2 v L.length (flatQ L)) (hl : L.length ≤ 1000000) {nb : Nat} (hnb : w.heap[nb]? = some (.cells #[.int .i64 x.f0, .int .i64 x.f1] 109 (0, 0))) (ty : TypeId) :
    ∃ v' w', (Builtin.append_ #[35, 35] ty #[v, .slice (some ⟨nb, 0, none⟩) 1 1]).run Try.prog w = .ok v' w' ∧ Ow w' (fun k => S k ∨ k = w.heap.size) 109 2 v' (L ++ [x]).length (flatQ (L ++ [x])) ∧ w.grownBy w' v.ownBlock ∧ ∃ g' c', v' = .slice (some ⟨g', 0, none⟩) (L.length + 1) c' := by
  obtain ⟨i0, hi0, h2⟩ := Option.map_eq_some_iff.1 infoQ
  have hz : i0.zero = some (.agg #[.int .i64 0, .int .i64 0]) := congrArg Prod.fst h2
  have hs : i0.size = 2 := congrArg (fun p => p.2.1) h2
  have hb : i0.bytes = 16 := congrArg (fun p => p.2.2) h2
  obtain ⟨v', w', r1, r2, r3, _, r5⟩ := run_append_ow (P := Try.prog) (ty := ty) 35 109 i0 _ 2 16 (by kernel_rfl) hi0 hz hs hb rfl (by decide) v L.length _ h ⟨nb, 0, none⟩ 1 1 [.int .i64 x.f0, .int .i64 x.f1] rfl (fun j u hj => by
    rw [add_plain]
    exact (blk_cell hnb j).trans (by simpa using hj)) (fun u hu => by
    simp only [List.mem_cons, List.not_mem_nil, or_false] at hu
    rcases hu with rfl | rfl <;> rfl) (by simp only [maxLen]; omega) (by omega) (by decide)
  refine ⟨v', w', r1, ?_, r3, r5⟩
  rw [List.length_append, flatQ_snoc]
  exact r2
theorem ow_RQ {w : World} {S : Nat → Prop} {v : Value} {L : List S109} {B : Nat} (h : Ow w S 109 2 v L.length (flatQ L)) (hB : ∀ k, S k → B ≤ k) : Kd.R k109 109 w B (fun _ => True) v L := by
  refine ⟨fun _ _ => trivial, flatQ L, Wr.Ow.based h hB, ?_⟩
  have key : ∀ M : List S109, Reps (k109.M w B (fun k => True ∧ some k ≠ v.ownBlock)) 2 M.reverse (flatQ M.reverse) := fun M => by
    induction M with
    | nil => exact Reps.none _ _
    | cons x t ih =>
      rw [List.reverse_cons, flatQ_snoc]
      exact ih.snoc (k109_mkM _ _ _ x) rfl
  have := key L.reverse
  rwa [List.reverse_reverse] at this
theorem rowsQ_none {s : ByteArray} {p k q n : Nat} {L : List S109} (h : rowsQ s k p = some (L, q)) (h1 : rowQ1 s q = none) (hk : k < n) : rowsQ s n p = none := by
  induction n with
  | zero => omega
  | succ n ih =>
    simp only [rowsQ]
    by_cases e : k = n
    · subst e
      rw [h]
      simp only [Option.bind_some, h1]
      rfl
    · rw [ih (by omega)]
      rfl
theorem rowsQ_succ {s : ByteArray} {p k q : Nat} {L : List S109} {x : S109} {q2 : Nat} (h : rowsQ s k p = some (L, q)) (h1 : rowQ1 s q = some (x, q2)) : rowsQ s (k + 1) p = some (L ++ [x], q2) := by
  simp only [rowsQ, h, Option.bind_some, h1]
end Go.Proofs.Ytbnglmeljbiglaa.Wr
set_option maxRecDepth 8192
namespace Go.Proofs.Ytbnglmeljbiglaa.Sa
open Go Go.RowKit Go.ChangeMaps Go.Proofs.Ytbnglmeljbiglaa.Rp Go.Proofs.Ytbnglmeljbiglaa.X4 Go.Proofs.YtbnglmeljbiglaaW.PrintWords Go.Proofs.YtbnglmeljbiglaaW.PrintLast Go.Proofs.YtbnglmeljbiglaaW.PrintMore
set_option linter.unusedVariables false
set_option linter.unusedSimpArgs false
attribute [local go_sem high] eqA107 eqA109
set_option maxHeartbeats 4000000 in
set_option maxRecDepth 100000 in
theorem rsame_calls (a b : S37) (A9 : Option Addr) (c9 : Nat) (A10 : Option Addr) (c10 : Nat) (B9 : Option Addr) (d9 : Nat) (B10 : Option Addr) (d10 : Nat) (w : World)
    (h9 : Kd.C k107 w A9 a.f9.length a.f9) (h10 : Kd.C k109 w A10 a.f10.length a.f10) (g9 : Kd.C k107 w B9 b.f9.length b.f9) (g10 : Kd.C k109 w B10 b.f10.length b.f10) (s9 : a.f9.length ≤ 1000000) (s10 : a.f10.length ≤ 1000000) :
    Calls Try.prog 28 #[aggR a A9 c9 A10 c10, aggR b B9 d9 B10 d10] w fun e w' => e = .returned (.bool (decide (a = b))) ∧ Below w.heap.size w w' := by
  have hu := Try.underlying107; have hu2 := Try.underlying109
  have H9 := Aside0.mk h9; have H10 := Aside0.mk h10; have G9 := Aside0.mk g9; have G10 := Aside0.mk g10; have S9 := Aside0.mk s9; have S10 := Aside0.mk s10
  clear h9 h10 g9 g10 s9 s10
  by_cases h0 : a.f0 = b.f0
  rotate_left
  · have e0 : (a.f0 == b.f0) = false := by rw [beq_eq_false_iff_ne]; exact h0
    have n0 : (a.f0 != b.f0) = true := by rw [bne_iff_ne]; exact h0
    have HN := Aside0.mk (show decide (a = b) = false from decide_eq_false fun e => h0 (by rw [e]))
    clear h0
    go_enter Try.func28, Try.ntmps28
    go_wp2
    go_ret
    exact ⟨by rw [HN.out]; rfl, ((Below.refl w.heap.size w).alloc (Nat.le_refl _) _).alloc (by simp) _⟩
  have e0 : (a.f0 == b.f0) = true := by rw [beq_iff_eq, h0]
  have n0 : (a.f0 != b.f0) = false := by rw [bne_eq_false_iff_eq, h0]
  have Q0 := Aside0.mk h0; clear h0
  by_cases h1 : a.f1 = b.f1
  rotate_left
  · have e1 : (a.f1 == b.f1) = false := by rw [beq_eq_false_iff_ne]; exact h1
    have n1 : (a.f1 != b.f1) = true := by rw [bne_iff_ne]; exact h1
    have HN := Aside0.mk (show decide (a = b) = false from decide_eq_false fun e => h1 (by rw [e]))
    clear h1
    go_enter Try.func28, Try.ntmps28
    go_wp2
    go_ret
    exact ⟨by rw [HN.out]; rfl, ((Below.refl w.heap.size w).alloc (Nat.le_refl _) _).alloc (by simp) _⟩
  have e1 : (a.f1 == b.f1) = true := by rw [beq_iff_eq, h1]
  have n1 : (a.f1 != b.f1) = false := by rw [bne_eq_false_iff_eq, h1]
  have Q1 := Aside0.mk h1; clear h1
  by_cases h2 : a.f2 = b.f2
  rotate_left
  · have e2 : (a.f2 == b.f2) = false := by rw [beq_eq_false_iff_ne]; exact h2
    have n2 : (a.f2 != b.f2) = true := by rw [bne_iff_ne]; exact h2
    have HN := Aside0.mk (show decide (a = b) = false from decide_eq_false fun e => h2 (by rw [e]))
    clear h2
    go_enter Try.func28, Try.ntmps28
    go_wp2
    go_ret
    exact ⟨by rw [HN.out]; rfl, ((Below.refl w.heap.size w).alloc (Nat.le_refl _) _).alloc (by simp) _⟩
  have e2 : (a.f2 == b.f2) = true := by rw [beq_iff_eq, h2]
  have n2 : (a.f2 != b.f2) = false := by rw [bne_eq_false_iff_eq, h2]
  have Q2 := Aside0.mk h2; clear h2
  by_cases h3 : a.f3 = b.f3
  rotate_left
  · have e3 : (a.f3 == b.f3) = false := by rw [beq_eq_false_iff_ne]; exact h3
    have n3 : (a.f3 != b.f3) = true := by rw [bne_iff_ne]; exact h3
    have HN := Aside0.mk (show decide (a = b) = false from decide_eq_false fun e => h3 (by rw [e]))
    clear h3
    go_enter Try.func28, Try.ntmps28
    go_wp2
    go_ret
    exact ⟨by rw [HN.out]; rfl, ((Below.refl w.heap.size w).alloc (Nat.le_refl _) _).alloc (by simp) _⟩
  have e3 : (a.f3 == b.f3) = true := by rw [beq_iff_eq, h3]
  have n3 : (a.f3 != b.f3) = false := by rw [bne_eq_false_iff_eq, h3]
  have Q3 := Aside0.mk h3; clear h3
  by_cases h4 : a.f4 = b.f4
  rotate_left
  · have e4 : (a.f4 == b.f4) = false := by rw [beq_eq_false_iff_ne]; exact h4
    have n4 : (a.f4 != b.f4) = true := by rw [bne_iff_ne]; exact h4
    have HN := Aside0.mk (show decide (a = b) = false from decide_eq_false fun e => h4 (by rw [e]))
    clear h4
    go_enter Try.func28, Try.ntmps28
    go_wp2
    go_ret
    exact ⟨by rw [HN.out]; rfl, ((Below.refl w.heap.size w).alloc (Nat.le_refl _) _).alloc (by simp) _⟩
  have e4 : (a.f4 == b.f4) = true := by rw [beq_iff_eq, h4]
  have n4 : (a.f4 != b.f4) = false := by rw [bne_eq_false_iff_eq, h4]
  have Q4 := Aside0.mk h4; clear h4
  by_cases h5 : a.f5 = b.f5
  rotate_left
  · have e5 : (a.f5 == b.f5) = false := by rw [beq_eq_false_iff_ne]; exact h5
    have n5 : (a.f5 != b.f5) = true := by rw [bne_iff_ne]; exact h5
    have HN := Aside0.mk (show decide (a = b) = false from decide_eq_false fun e => h5 (by rw [e]))
    clear h5
    go_enter Try.func28, Try.ntmps28
    go_wp2
    go_ret
    exact ⟨by rw [HN.out]; rfl, ((Below.refl w.heap.size w).alloc (Nat.le_refl _) _).alloc (by simp) _⟩
  have e5 : (a.f5 == b.f5) = true := by rw [beq_iff_eq, h5]
  have n5 : (a.f5 != b.f5) = false := by rw [bne_eq_false_iff_eq, h5]
  have Q5 := Aside0.mk h5; clear h5
  by_cases h6 : a.f6 = b.f6
  rotate_left
  · have e6 : (a.f6 == b.f6) = false := by rw [beq_eq_false_iff_ne]; exact h6
    have n6 : (a.f6 != b.f6) = true := by rw [bne_iff_ne]; exact h6
    have HN := Aside0.mk (show decide (a = b) = false from decide_eq_false fun e => h6 (by rw [e]))
    clear h6
    go_enter Try.func28, Try.ntmps28
    go_wp2
    go_ret
    exact ⟨by rw [HN.out]; rfl, ((Below.refl w.heap.size w).alloc (Nat.le_refl _) _).alloc (by simp) _⟩
  have e6 : (a.f6 == b.f6) = true := by rw [beq_iff_eq, h6]
  have n6 : (a.f6 != b.f6) = false := by rw [bne_eq_false_iff_eq, h6]
  have Q6 := Aside0.mk h6; clear h6
  by_cases h7 : a.f7 = b.f7
  rotate_left
  · have e7 : (a.f7.toList == b.f7.toList) = false := by rw [beq_eq_false_iff_ne]; exact fun e => h7 ((toList_eq _ _).1 e)
    have n7 : (a.f7.toList != b.f7.toList) = true := by rw [bne_iff_ne]; exact fun e => h7 ((toList_eq _ _).1 e)
    have HN := Aside0.mk (show decide (a = b) = false from decide_eq_false fun e => h7 (by rw [e]))
    clear h7
    go_enter Try.func28, Try.ntmps28
    go_wp2
    go_ret
    exact ⟨by rw [HN.out]; rfl, ((Below.refl w.heap.size w).alloc (Nat.le_refl _) _).alloc (by simp) _⟩
  have e7 : (a.f7.toList == b.f7.toList) = true := by rw [beq_iff_eq, h7]
  have n7 : (a.f7.toList != b.f7.toList) = false := by rw [bne_eq_false_iff_eq, h7]
  have Q7 := Aside0.mk h7; clear h7
  by_cases h8 : a.f8 = b.f8
  rotate_left
  · have e8 : (a.f8.toList == b.f8.toList) = false := by rw [beq_eq_false_iff_ne]; exact fun e => h8 ((toList_eq _ _).1 e)
    have n8 : (a.f8.toList != b.f8.toList) = true := by rw [bne_iff_ne]; exact fun e => h8 ((toList_eq _ _).1 e)
    have HN := Aside0.mk (show decide (a = b) = false from decide_eq_false fun e => h8 (by rw [e]))
    clear h8
    go_enter Try.func28, Try.ntmps28
    go_wp2
    go_ret
    exact ⟨by rw [HN.out]; rfl, ((Below.refl w.heap.size w).alloc (Nat.le_refl _) _).alloc (by simp) _⟩
  have e8 : (a.f8.toList == b.f8.toList) = true := by rw [beq_iff_eq, h8]
  have n8 : (a.f8.toList != b.f8.toList) = false := by rw [bne_eq_false_iff_eq, h8]
  have Q8 := Aside0.mk h8; clear h8
  by_cases h9 : a.f9.length = b.f9.length
  rotate_left
  · have e9 : ((a.f9.length : Int) != (b.f9.length : Int)) = true := by rw [bne_iff_ne]; omega
    have n9 : (a.f9.length == b.f9.length) = false := by rw [beq_eq_false_iff_ne]; exact h9
    have HN := Aside0.mk (show decide (a = b) = false from decide_eq_false fun e => h9 (by rw [e]))
    clear h9
    go_enter Try.func28, Try.ntmps28
    go_wp2
    go_ret
    exact ⟨by rw [HN.out]; rfl, ((Below.refl w.heap.size w).alloc (Nat.le_refl _) _).alloc (by simp) _⟩
  have e9 : ((a.f9.length : Int) != (b.f9.length : Int)) = false := by rw [bne_eq_false_iff_eq]; omega
  have n9 : (a.f9.length == b.f9.length) = true := by rw [beq_iff_eq]; exact h9
  have HL9 := Aside0.mk h9; clear h9
  by_cases h10 : a.f10.length = b.f10.length
  rotate_left
  · have e10 : ((a.f10.length : Int) != (b.f10.length : Int)) = true := by rw [bne_iff_ne]; omega
    have n10 : (a.f10.length == b.f10.length) = false := by rw [beq_eq_false_iff_ne]; exact h10
    have HN := Aside0.mk (show decide (a = b) = false from decide_eq_false fun e => h10 (by rw [e]))
    clear h10
    go_enter Try.func28, Try.ntmps28
    go_wp2
    go_ret
    exact ⟨by rw [HN.out]; rfl, ((Below.refl w.heap.size w).alloc (Nat.le_refl _) _).alloc (by simp) _⟩
  have e10 : ((a.f10.length : Int) != (b.f10.length : Int)) = false := by rw [bne_eq_false_iff_eq]; omega
  have n10 : (a.f10.length == b.f10.length) = true := by rw [beq_iff_eq]; exact h10
  have HL10 := Aside0.mk h10; clear h10
  go_enter Try.func28, Try.ntmps28
  go_upto_region 4 with (fail)
  obtain ⟨W0, hW0, hB, hA_, hB_⟩ : ∃ W0, W0 = (w.alloc (.cells #[.int .i64 a.f0, .int .i64 a.f1, .int .i64 a.f2, .int .i64 a.f3, .int .i64 a.f4, .int .i64 a.f5, .int .i64 a.f6, .string a.f7, .string a.f8, .slice A9 a.f9.length c9, .slice A10 a.f10.length c10] 37)).alloc (.cells #[.int .i64 b.f0, .int .i64 b.f1, .int .i64 b.f2, .int .i64 b.f3, .int .i64 b.f4, .int .i64 b.f5, .int .i64 b.f6, .string b.f7, .string b.f8, .slice B9 b.f9.length d9, .slice B10 b.f10.length d10] 37) ∧ Below w.heap.size w W0 ∧ W0.heap[w.heap.size]? = some (.cells #[.int .i64 a.f0, .int .i64 a.f1, .int .i64 a.f2, .int .i64 a.f3, .int .i64 a.f4, .int .i64 a.f5, .int .i64 a.f6, .string a.f7, .string a.f8, .slice A9 a.f9.length c9, .slice A10 a.f10.length c10] 37 (0, 0)) ∧ W0.heap[w.heap.size + 1]? = some (.cells #[.int .i64 b.f0, .int .i64 b.f1, .int .i64 b.f2, .int .i64 b.f3, .int .i64 b.f4, .int .i64 b.f5, .int .i64 b.f6, .string b.f7, .string b.f8, .slice B9 b.f9.length d9, .slice B10 b.f10.length d10] 37 (0, 0)) := ⟨_, rfl, ((Below.refl w.heap.size w).alloc (Nat.le_refl _) _).alloc (by simp) _, (two_below (Below.refl _ _)).1, (two_below (Below.refl _ _)).2⟩
  rw [← hW0]
  clear hW0 e0 n0 e1 n1 e2 n2 e3 n3 e4 n4 e5 n5 e6 n6 e7 n7 e8 n8 e9 n9 e10 n10
  have HB := Aside0.mk hB
  have C9 := Aside0.mk (Kd.C_below H9.out hB); have C10 := Aside0.mk (Kd.C_below H10.out hB); have D9 := Aside0.mk (Kd.C_below G9.out hB); have D10 := Aside0.mk (Kd.C_below G10.out hB)
  have q9 : W0.cell? ⟨w.heap.size, 9, none⟩ = some (.slice A9 a.f9.length c9) := blk_cell hA_ 9
  have q10 : W0.cell? ⟨w.heap.size, 10, none⟩ = some (.slice A10 a.f10.length c10) := blk_cell hA_ 10
  have p9 : W0.cell? ⟨w.heap.size + 1, 9, none⟩ = some (.slice B9 b.f9.length d9) := blk_cell hB_ 9
  have p10 : W0.cell? ⟨w.heap.size + 1, 10, none⟩ = some (.slice B10 b.f10.length d10) := blk_cell hB_ 10
  clear hB hA_ hB_
  go_loopw [5] (fun v wr => ∃ k : Nat, v = .int .i64 k ∧ Aside0 (k ≤ a.f9.length) ∧ Aside0 (a.f9.take k = b.f9.take k) ∧ Aside0 (∃ m, wr = W0.drewN m)) (fun v _ => a.f9.length - (intOf v).toNat)
  case atStart => exact ⟨0, rfl, ⟨Nat.zero_le _⟩, ⟨rfl⟩, ⟨⟨0, rfl⟩⟩⟩
  case round =>
    obtain ⟨k, rfl, K, HT, HW⟩ := hrel
    obtain ⟨m, rfl⟩ := HW.out
    by_cases hlt : k < a.f9.length
    · have h1 : (k : Int) < (a.f9.length : Int) := by omega
      have h1b : (k : Int) < (b.f9.length : Int) := by have := HL9.out; omega
      have h2 : (0 : Int) ≤ (k : Int) := by omega
      have hly : k < b.f9.length := by have := HL9.out; omega
      have hwk : wrap64 ((k : Int) + 1) = ((k + 1 : Nat) : Int) := by have := S9.out; unfold wrap64; omega
      obtain ⟨ad, e_, x0, x1, x2⟩ := at_T107 C9.out k h2 h1
      obtain ⟨bd, e2_, y0, y1, y2⟩ := at_T107 D9.out k h2 h1b
      have hX : a.f9[k]? = some (rd_T107 a.f9 k) := by unfold rd_T107; rw [Int.toNat_natCast, List.getD_eq_getElem?_getD, List.getElem?_eq_getElem (by omega)]; rfl
      have hY : b.f9[k]? = some (rd_T107 b.f9 k) := by unfold rd_T107; rw [Int.toNat_natCast, List.getD_eq_getElem?_getD, List.getElem?_eq_getElem (by omega)]; rfl
      have HX := Aside0.mk hX; have HY := Aside0.mk hY; clear hX hY
      simp only [Int.toNat_natCast] at x0 x1 x2 y0 y1 y2
      subst e_; subst e2_
      generalize rd_T107 a.f9 k = x at *
      generalize rd_T107 b.f9 k = y at *
      have HLT := Aside0.mk hlt
      by_cases hxy : x = y
      · have n1 : (!(x.f0 == y.f0) || (!(x.f1 == y.f1) || (!(x.f2 == y.f2)))) = false := (neT_iff x y).2 hxy
        have HXY := Aside0.mk hxy; clear hxy hlt
        go_wp2
        go_quiet (fail)
        go_wp2
        (try simp only [hwk])
        refine ⟨⟨k + 1, rfl, ⟨HLT.out⟩, ⟨take_eqT HT.out HX.out (by rw [HXY.out]; exact HY.out)⟩, ⟨⟨_, rfl⟩⟩⟩, ?_⟩
        have := HLT.out
        show a.f9.length - (intOf (.int .i64 ((k + 1 : Nat) : Int))).toNat < a.f9.length - (intOf (.int .i64 (k : Int))).toNat
        simp only [intOf]; omega
      · have n1 : (!(x.f0 == y.f0) || (!(x.f1 == y.f1) || (!(x.f2 == y.f2)))) = true := by rw [← Bool.not_eq_false, neT_iff]; exact hxy
        have HN := Aside0.mk (show decide (a = b) = false from decide_eq_false fun e => take_neT HX.out HY.out hxy (by rw [e]))
        clear hxy hlt
        go_wp2
        go_quiet (fail)
        go_wp2
        go_ret
        exact ⟨by rw [HN.out]; rfl, pw_below_drewN (pw_below_drewN HB.out _) _⟩
    · obtain rfl : k = a.f9.length := by have := K.out; omega
      have HQ9 := Aside0.mk (show a.f9 = b.f9 by have h := HT.out; rwa [List.take_length, HL9.out, List.take_length] at h)
      clear hlt
      go_upto_region 9 with (fail)
      go_loopw [6] (fun v wr => ∃ k : Nat, v = .int .i64 k ∧ Aside0 (k ≤ a.f10.length) ∧ Aside0 (a.f10.take k = b.f10.take k) ∧ Aside0 (∃ m, wr = W0.drewN m)) (fun v _ => a.f10.length - (intOf v).toNat)
      case atStart => exact ⟨0, rfl, ⟨Nat.zero_le _⟩, ⟨rfl⟩, ⟨⟨_, rfl⟩⟩⟩
      case round =>
        obtain ⟨k, rfl, K, HT, HW⟩ := hrel
        obtain ⟨m, rfl⟩ := HW.out
        by_cases hlt : k < a.f10.length
        · have h1 : (k : Int) < (a.f10.length : Int) := by omega
          have h1b : (k : Int) < (b.f10.length : Int) := by have := HL10.out; omega
          have h2 : (0 : Int) ≤ (k : Int) := by omega
          have hly : k < b.f10.length := by have := HL10.out; omega
          have hwk : wrap64 ((k : Int) + 1) = ((k + 1 : Nat) : Int) := by have := S10.out; unfold wrap64; omega
          obtain ⟨ad, e_, x0, x1⟩ := at_T109 C10.out k h2 h1
          obtain ⟨bd, e2_, y0, y1⟩ := at_T109 D10.out k h2 h1b
          have hX : a.f10[k]? = some (rd_T109 a.f10 k) := by unfold rd_T109; rw [Int.toNat_natCast, List.getD_eq_getElem?_getD, List.getElem?_eq_getElem (by omega)]; rfl
          have hY : b.f10[k]? = some (rd_T109 b.f10 k) := by unfold rd_T109; rw [Int.toNat_natCast, List.getD_eq_getElem?_getD, List.getElem?_eq_getElem (by omega)]; rfl
          have HX := Aside0.mk hX; have HY := Aside0.mk hY; clear hX hY
          simp only [Int.toNat_natCast] at x0 x1 y0 y1
          subst e_; subst e2_
          generalize rd_T109 a.f10 k = x at *
          generalize rd_T109 b.f10 k = y at *
          have HLT := Aside0.mk hlt
          by_cases hxy : x = y
          · have n1 : (!(x.f0 == y.f0) || (!(x.f1 == y.f1))) = false := (neQ_iff x y).2 hxy
            have HXY := Aside0.mk hxy; clear hxy hlt
            go_wp2
            go_quiet (fail)
            go_wp2
            (try simp only [hwk])
            refine ⟨⟨k + 1, rfl, ⟨HLT.out⟩, ⟨take_eqQ HT.out HX.out (by rw [HXY.out]; exact HY.out)⟩, ⟨⟨_, rfl⟩⟩⟩, ?_⟩
            have := HLT.out
            show a.f10.length - (intOf (.int .i64 ((k + 1 : Nat) : Int))).toNat < a.f10.length - (intOf (.int .i64 (k : Int))).toNat
            simp only [intOf]; omega
          · have n1 : (!(x.f0 == y.f0) || (!(x.f1 == y.f1))) = true := by rw [← Bool.not_eq_false, neQ_iff]; exact hxy
            have HN := Aside0.mk (show decide (a = b) = false from decide_eq_false fun e => take_neQ HX.out HY.out hxy (by rw [e]))
            clear hxy hlt
            go_wp2
            go_quiet (fail)
            go_wp2
            go_ret
            exact ⟨by rw [HN.out]; rfl, pw_below_drewN (pw_below_drewN HB.out _) _⟩
        · obtain rfl : k = a.f10.length := by have := K.out; omega
          have HQ10 := Aside0.mk (show a.f10 = b.f10 by have h := HT.out; rwa [List.take_length, HL10.out, List.take_length] at h)
          clear hlt
          have HN := Aside0.mk (show decide (a = b) = true from decide_eq_true (by obtain ⟨a0, a1, a2, a3, a4, a5, a6, a7, a8, a9, a10⟩ := a; obtain ⟨b0, b1, b2, b3, b4, b5, b6, b7, b8, b9, b10⟩ := b; have := Q0.out; have := Q1.out; have := Q2.out; have := Q3.out; have := Q4.out; have := Q5.out; have := Q6.out; have := Q7.out; have := Q8.out; have := HQ9.out; have := HQ10.out; simp_all))
          go_wp2
          go_ret
          exact ⟨by rw [HN.out]; rfl, pw_below_drewN HB.out _⟩
end Go.Proofs.Ytbnglmeljbiglaa.Sa
set_option maxRecDepth 8192
namespace Go.Proofs.Ytbnglmeljbiglaa.Opens
open Go Go.RowKit Go.ChangeShapes Go.WideShapes Go.Deep Go.Proofs.YtbnglmeljbiglaaW.PrintWords
set_option linter.unusedVariables false
variable {P : Program}
/-- Whatever reads as data at type t is a value of kind d that meets Wf. -/
def Opens (P : Program) (t : TypeId) {α : Type} (d : Kd α) (Wf : α → Prop) : Prop :=
  ∀ {H : Type} {enc : TypeId × Value → H} {w : World} {fuel : Nat} {cs : List Value} {x : DataW H × List MemPlace},
    DataW.trod enc P w 0 (fun _ => true) true fuel t cs = some x → (∀ n ∈ DataW.weights P t x.1, n ≤ reachBytes) → ∃ v : α, d.K w v cs ∧ Wf v
theorem opens_int {t : TypeId} {k : IntKind} (ht : P.underlying t = some (.int k)) : Opens P t (Kd.int k) (fun n => (Lit.int k n).wf = true) := by
  intro H enc w fuel cs x h _
  obtain ⟨n, rfl, _, hw⟩ := DataW.trod_int ht h
  exact ⟨n, rfl, hw⟩
theorem opens_string {t : TypeId} (ht : P.underlying t = some .string) : Opens P t Kd.string (fun s => s.size ≤ 140737488351232) := by
  intro H enc w fuel cs x h hw
  obtain ⟨s, rfl, rfl, _⟩ := DataW.trod_string ht h
  refine ⟨s, rfl, ?_⟩
  have := hw s.data.toList.length (by simp [DataW.weights])
  simpa [reachBytes] using this
theorem weightsAll_mem {H : Type} (e : TypeId) : ∀ (l : List (DataW H)) (d : DataW H), d ∈ l → ∀ n ∈ d.weights P e, n ∈ DataW.weightsAll P e l
  | [], d, h, _, _ => by cases h
  | a :: r, d, h, n, hn => by
    simp only [DataW.weightsAll, List.mem_append]
    rcases List.mem_cons.1 h with rfl | h
    · exact .inl hn
    · exact .inr (weightsAll_mem e r d h n hn)
theorem list_of {α : Type} : ∀ (n : Nat) (Q : Nat → α → Prop), (∀ i, i < n → ∃ v, Q i v) → ∃ l : List α, l.length = n ∧ ∀ i v, l[i]? = some v → Q i v
  | 0, _, _ => ⟨[], rfl, fun i v h => by simp at h⟩
  | n + 1, Q, h => by
    obtain ⟨l, hl, hq⟩ := list_of n Q (fun i hi => h i (by omega))
    obtain ⟨v, hv⟩ := h n (by omega)
    refine ⟨l ++ [v], by simp [hl], fun i u hi => ?_⟩
    rw [List.getElem?_append] at hi
    split at hi
    · exact hq i u hi
    · have : i - l.length = 0 := by
        by_cases e : i - l.length = 0
        · exact e
        · rw [List.getElem?_eq_none (by simp; omega)] at hi; cases hi
      rw [this] at hi
      simp only [List.getElem?_cons_zero, Option.some.injEq] at hi
      subst hi
      obtain rfl : i = n := by omega
      exact hv
theorem opens_slice {t e : TypeId} {α : Type} {d : Kd α} {Wf : α → Prop} (ht : P.underlying t = some (.slice e)) (hsz : P.cellsOf e = d.sz) (O : Opens P e d Wf) :
    Opens P t (Kd.slice e d) (fun l => l.length ≤ maxLen ∧ l.length * P.bytesOf e ≤ 140737488351232 ∧ ∀ x ∈ l, Wf x) := by
  intro H enc w fuel cs x h hw
  rcases open_slice ht h with ⟨rfl, rfl⟩ | ⟨a, len, cap, m, n, D, Pl, rfl, _, hl, hm, hmm, rfl, hx⟩
  · exact ⟨[], ⟨none, 0, rfl, Nat.le_refl _, rfl, by simp, fun h => absurd h (by simp)⟩, by simp, by simp, by simp⟩
  · simp only [if_true] at hmm
    subst hmm
    have each : ∀ i, i < len → ∃ v : α, (∃ c : List Value, c.length = d.sz ∧ d.K w v c ∧ ∀ j u, c[j]? = some u → w.cell? (a.add (i * d.sz + j)) = some u) ∧ Wf v := by
      intro i hi
      obtain ⟨cs', hc, ht'⟩ := hx i (by omega)
      have hwi : ∀ n ∈ DataW.weights P e (D i), n ≤ reachBytes := by
        intro q hq
        refine hw q ?_
        simp only [DataW.weights, ht, List.mem_cons, List.mem_append]
        exact .inr (.inl (weightsAll_mem e _ (D i) (List.mem_map.2 ⟨i, List.mem_range.2 hi, rfl⟩) q hq))
      obtain ⟨v, hk, hf⟩ := O ht' hwi
      obtain ⟨_, hcl, hat⟩ := World.cells?_some hc
      refine ⟨v, ⟨cs', by rw [hcl, hsz], hk, fun j u hj => ?_⟩, hf⟩
      have hjl : j < P.cellsOf e := by rw [← hcl]; exact (List.getElem?_eq_some_iff.1 hj).1
      have h1 := hat j hjl
      rw [hj] at h1
      rw [← hsz, ← h1]
      rw [Addr.add_add]
    obtain ⟨l, hll, hlq⟩ := list_of len _ each
    refine ⟨l, ⟨some a, m, by rw [hll], by omega, hll.symm ▸ rfl, by unfold maxLen at hm; omega, fun _ => ⟨a, rfl, fun j p hj => (hlq j p hj).1⟩⟩, by unfold maxLen at *; omega, ?_, fun v hv => ?_⟩
    · have h1 := hw ((len + (m - len)) * P.bytesOf e) (by simp [DataW.weights, ht])
      have h2 : l.length * P.bytesOf e ≤ (len + (m - len)) * P.bytesOf e := Nat.mul_le_mul_right _ (by omega)
      unfold reachBytes at h1
      omega
    · obtain ⟨i, hi⟩ := List.getElem?_of_mem hv
      exact (hlq i v hi).2
theorem opens_iso {t : TypeId} {α β : Type} {d : Kd α} {Wf : α → Prop} (O : Opens P t d Wf) (f : β → α) (g : α → β) (hfg : ∀ a, f (g a) = a) : Opens P t (Kd.iso d f) (fun b => Wf (f b)) := by
  intro H enc w fuel cs x h hw
  obtain ⟨v, hk, hf⟩ := O h hw
  refine ⟨g v, ?_, ?_⟩
  · show d.K w (f (g v)) cs
    rw [hfg]; exact hk
  · show Wf (f (g v))
    rw [hfg]; exact hf
/-- Fields, one behind the other. -/
def OpensF (P : Program) (ts : List TypeId) {α : Type} (d : Kd α) (Wf : α → Prop) : Prop :=
  ∀ {H : Type} {enc : TypeId × Value → H} {w : World} {fuel : Nat} {css : List (List Value)} {xs : List (DataW H × List MemPlace)},
    css.length = ts.length → xs.length = ts.length → (∀ (i : Nat) (t : TypeId) (cs : List Value) (x : DataW H × List MemPlace), ts[i]? = some t → css[i]? = some cs → xs[i]? = some x → DataW.trod enc P w 0 (fun _ => true) true fuel t cs = some x ∧ ∀ n ∈ DataW.weights P t x.1, n ≤ reachBytes) →
    ∃ v : α, d.K w v css.flatten ∧ Wf v
theorem opensF_one {t : TypeId} {α : Type} {d : Kd α} {Wf : α → Prop} (O : Opens P t d Wf) : OpensF P [t] d Wf := by
  intro H enc w fuel css xs hc hx h
  match css, xs, hc, hx with
  | [cs], [x], _, _ =>
    obtain ⟨h1, h2⟩ := h 0 t cs x rfl rfl rfl
    obtain ⟨v, hk, hf⟩ := O h1 h2
    exact ⟨v, by simpa using hk, hf⟩
theorem opensF_cons {t : TypeId} {ts : List TypeId} {α β : Type} {d : Kd α} {d' : Kd β} {Wf : α → Prop} {Wf' : β → Prop} (O : Opens P t d Wf) (O' : OpensF P ts d' Wf') :
    OpensF P (t :: ts) (Kd.pair d d') (fun x => Wf x.1 ∧ Wf' x.2) := by
  intro H enc w fuel css xs hc hx h
  match css, xs, hc, hx with
  | cs :: css, x :: xs, hc, hx =>
    obtain ⟨h1, h2⟩ := h 0 t cs x rfl rfl rfl
    obtain ⟨v, hk, hf⟩ := O h1 h2
    obtain ⟨v', hk', hf'⟩ := O' (css := css) (xs := xs) (by simpa using hc) (by simpa using hx) (fun i t' cs' x' a b c => h (i + 1) t' cs' x' (by simpa using a) (by simpa using b) (by simpa using c))
    exact ⟨(v, v'), ⟨cs, css.flatten, by simp, hk, hk'⟩, hf, hf'⟩
/-- Fields' places: each begins where the one ahead of it ends. -/
def placed (P : Program) : Nat → List Field → Bool
  | _, [] => true
  | o, f :: fs => f.offset == o && placed P (o + P.cellsOf f.type) fs
def total (P : Program) : List Field → Nat
  | [] => 0
  | f :: fs => P.cellsOf f.type + total P fs
theorem cut_flatten (P : Program) : ∀ (fs : List Field) (o : Nat) (cs : List Value), placed P o fs = true → cs.length = o + total P fs → (fs.map fun f => (cs.drop f.offset).take (P.cellsOf f.type)).flatten = cs.drop o
  | [], o, cs, _, hl => by simp only [List.map_nil, List.flatten_nil, total, Nat.add_zero] at *; rw [← hl, List.drop_length]
  | f :: fs, o, cs, hp, hl => by
    simp only [placed, Bool.and_eq_true, beq_iff_eq] at hp
    simp only [total] at hl
    simp only [List.map_cons, List.flatten_cons, hp.1]
    rw [cut_flatten P fs (o + P.cellsOf f.type) cs hp.2 (by omega), ← List.drop_drop, List.take_append_drop]
theorem opens_struct {t : TypeId} {fs : Array Field} {α : Type} {d : Kd α} {Wf : α → Prop} (ht : P.underlying t = some (.struct fs)) (hp : placed P 0 fs.toList = true) (htot : P.cellsOf t = total P fs.toList)
    (O : OpensF P (fs.toList.map (·.type)) d Wf) : Opens P t d Wf := by
  intro H enc w fuel cs x h hw
  obtain ⟨xs, n, rfl, rfl, hlen, hxl, hf⟩ := DataW.trod_struct ht h
  have hx2 : xs.length = (fs.toList.map (·.type)).length := by simpa using hxl
  obtain ⟨v, hk, hwf⟩ := O (w := w) (fuel := n) (css := fs.toList.map fun f => (cs.drop f.offset).take (P.cellsOf f.type)) (xs := xs) (by simp) hx2 (by
    intro i t' cs' x' ha hb hc
    rw [List.getElem?_map] at ha hb
    cases hfi : fs.toList[i]? with
    | none => rw [hfi] at ha; cases ha
    | some f =>
      rw [hfi] at ha hb
      simp only [Option.map_some, Option.some.injEq] at ha hb
      subst ha; subst hb
      have h1 := hf i f (by simpa using hfi)
      rw [h1]
      refine ⟨hc, fun q hq => hw q ?_⟩
      simp only [DataW.weights, ht]
      exact DataW.weights_mem_each (j := i) (t := f.type) (d := x'.1) (by rw [List.getElem?_map, hfi]; rfl) (by rw [List.getElem?_map, hc]; rfl) q hq)
  rw [cut_flatten P fs.toList 0 cs hp (by rw [hlen, htot]; omega)] at hk
  exact ⟨v, by simpa using hk, hwf⟩
end Go.Proofs.Ytbnglmeljbiglaa.Opens
