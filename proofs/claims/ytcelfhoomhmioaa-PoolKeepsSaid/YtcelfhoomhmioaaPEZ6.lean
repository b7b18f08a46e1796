import Derived.Laws.IdiomCopy
import Derived.Deep.QuietTactic
import Derived.BigQuiet
import Derived.Shelf.Abstract
import Derived.Defers
import Derived.Recover
import Derived.Laws.BitsLemmas
import Derived.WalkKit
import Derived.ProofKit
import Derived.OpenShut
import Derived.ChangeOld
import Derived.Below
import Derived.SizedLaws
import Derived.Deep.Slices
import Derived.Deep.Fields
import Derived.ChangeSame
import Derived.Test.YtcelfhoomhmioaaPEZ0
import Derived.Test.YtcelfhoomhmioaaPEZ1
import Derived.Test.YtcelfhoomhmioaaPEZ2
import Derived.Test.YtcelfhoomhmioaaPEZ3
import Derived.Test.YtcelfhoomhmioaaPEZ4
import Derived.Test.YtcelfhoomhmioaaPEZ5
set_option maxRecDepth 8192
namespace Go.Proofs.Ytcelfhoomhmioaa.X12
open Go Go.RowKit Go.Proofs.YtcelfhoomhmioaaW.PrintWords Go.Proofs.Ytcelfhoomhmioaa.Slab
set_option linter.unusedVariables false
/-- A text's bytes as a list. -/
def bl (s : ByteArray) : List UInt8 := s.data.toList
theorem bl_len (s : ByteArray) : (bl s).length = s.size := by simp [bl]
theorem bl_ext {s t : ByteArray} (h : bl s = bl t) : s = t := ByteArray.ext (Array.toList_inj.1 h)
theorem bl_cut (s : ByteArray) (a b : Nat) : bl (s.extract a b) = ((bl s).drop a).take (b - a) := by simp [bl]
theorem bt_bl (s : ByteArray) (j : Nat) (h : j < s.size) : bt s (j : Int) = (((bl s).getD j 0).toNat : Int) := by
  have h1 : j < (bl s).length := by rw [bl_len]; exact h
  unfold bt
  rw [dif_pos (by simpa using h), List.getD_eq_getElem?_getD, List.getElem?_eq_getElem h1]
  simp [bl, ByteArray.getElem_eq_getElem_data]
theorem w64 {x : Int} (h0 : -9223372036854775808 ≤ x) (h1 : x ≤ 9223372036854775807) : wrap64 x = x := by unfold wrap64; omega
theorem or64 (x y : Int) (h0 : 0 ≤ x) (h1 : x < 16777216) (h2 : 0 ≤ y) (h3 : y < 256) : bits .or .i64 (x * 256) y = x * 256 + y :=
  bits_join .i64 40 (by decide) (fun n a b => by rw [IntKind.wrap_i64]; omega) 8 (x * 256) y (by omega) (by omega) (by omega) h2 (by omega) (by omega)
theorem or32 (x y : Int) (h0 : 0 ≤ x) (h1 : x < 16777216) (h2 : 0 ≤ y) (h3 : y < 256) : bits .or .u32 (x * 256 % 4294967296) (y % 4294967296) = x * 256 + y := by
  rw [show x * 256 % 4294967296 = x * 256 by omega, show y % 4294967296 = y by omega]
  exact bits_join .u32 32 (by decide) (fun n a b => by rw [IntKind.wrap_u32]; omega) 8 (x * 256) y (by omega) (by omega) (by omega) h2 (by omega) (by omega)
/-- Four bytes as a number, the highest first. -/
def numB (s : ByteArray) : Int := ((bt s 0 * 256 + bt s 1) * 256 + bt s 2) * 256 + bt s 3
theorem numB_range (s : ByteArray) : 0 ≤ numB s ∧ numB s < 4294967296 := by
  have a := bt_range s 0; have b := bt_range s 1; have c := bt_range s 2; have d := bt_range s 3
  unfold numB; omega
theorem get_eq (k : Nat) (s : ByteArray) (h : 4 ≤ s.size) : slab_get.f (k + 5) s = some (numB s) := by
  unfold slab_get.f
  have a := bt_range s 0; have b := bt_range s 1; have c := bt_range s 2; have d := bt_range s 3
  have e0 : bits .or .u32 (0 * 256 % 4294967296) (bt s 0 % 4294967296) = bt s 0 := by
    rw [or32 0 _ (by omega) (by omega) (by omega) (by omega)]; omega
  have e1 := or32 (bt s 0) (bt s 1) (by omega) (by omega) (by omega) (by omega)
  have e2 := or32 (bt s 0 * 256 + bt s 1) (bt s 2) (by omega) (by omega) (by omega) (by omega)
  have e3 := or32 ((bt s 0 * 256 + bt s 1) * 256 + bt s 2) (bt s 3) (by omega) (by omega) (by omega) (by omega)
  have i1 : wrap64 (0 + 1) = 1 := by unfold wrap64; omega
  have i2 : wrap64 (1 + 1) = 2 := by unfold wrap64; omega
  have i3 : wrap64 (2 + 1) = 3 := by unfold wrap64; omega
  have i4 : wrap64 (3 + 1) = 4 := by unfold wrap64; omega
  rw [slab_get.l0, if_pos (by omega), if_pos (by omega), if_pos (by omega), i1, e0]
  rw [slab_get.l0, if_pos (by omega), if_pos (by omega), if_pos (by omega), i2, e1]
  rw [slab_get.l0, if_pos (by omega), if_pos (by omega), if_pos (by omega), i3, e2]
  rw [slab_get.l0, if_pos (by omega), if_pos (by omega), if_pos (by omega), i4, e3]
  rw [slab_get.l0, if_neg (by omega)]
  rfl
theorem numB_bl (s : ByteArray) (h : 4 ≤ s.size) : numB s = num4 ((bl s).getD 0 0) ((bl s).getD 1 0) ((bl s).getD 2 0) ((bl s).getD 3 0) := by
  have a := bt_bl s 0 (by omega); have b := bt_bl s 1 (by omega); have c := bt_bl s 2 (by omega); have d := bt_bl s 3 (by omega)
  unfold numB num4
  rw [show bt s 0 = _ from a, show bt s 1 = _ from b, show bt s 2 = _ from c, show bt s 3 = _ from d]
  omega
theorem of_n32 (a : Int) (h : 0 ≤ a ∧ a < 4294967296) : n32 (BitVec.ofInt 32 a) = a := by
  unfold n32
  rw [BitVec.toNat_ofInt]
  omega
/-- Pack, with its numbers as they are. -/
def packI (e i : Int) (b : ByteArray) : ByteArray × Int := packF (BitVec.ofInt 32 e) (BitVec.ofInt 32 i) b
theorem pack_eq (e i : Int) (b : ByteArray) (he : 0 ≤ e ∧ e < 4294967296) (hi : 0 ≤ i ∧ i < 4294967296) : slab_Pack.f e i b = some (packI e i b) := by
  unfold slab_Pack.f packI
  rw [if_pos ⟨he, hi⟩]
theorem packI_bl (e i : Int) (b : ByteArray) (he : 0 ≤ e ∧ e < 4294967296) (hi : 0 ≤ i ∧ i < 4294967296) (hb : b.size ≤ 112) : bl (packI e i b).1 = secL e i (bl b) ∧ (packI e i b).2 = 0 := by
  unfold packI packF
  rw [if_pos hb]
  refine ⟨?_, rfl⟩
  have := sector_list (BitVec.ofInt 32 e) (BitVec.ofInt 32 i) b hb
  rw [of_n32 e he, of_n32 i hi] at this
  exact this
/-- How long a sector's body is. -/
def lenS (s : ByteArray) : Int := bt s 8 * 256 + bt s 9
def cutB (s : ByteArray) : ByteArray := s.extract 12 (12 + (lenS s).toNat)
def nE (s : ByteArray) : Int := numB s
def nI (s : ByteArray) : Int := numB (s.extract 4 s.size)
/-- It is the sector of what it tells. -/
def isSec (s : ByteArray) : Prop := s.size = 128 ∧ lenS s ≤ 112 ∧ secL (nE s) (nI s) (bl (cutB s)) = bl s
instance (s : ByteArray) : Decidable (isSec s) := by unfold isSec; infer_instance
def unpackF (s : ByteArray) : Int × Int × ByteArray × Int := if isSec s then (nE s, nI s, cutB s, 0) else (0, 0, ⟨#[]⟩, 8)
theorem lenS_range (s : ByteArray) : 0 ≤ lenS s ∧ lenS s ≤ 65535 := by
  have a := bt_range s 8; have b := bt_range s 9
  unfold lenS; omega
theorem cutB_size (s : ByteArray) (h : s.size = 128) (hl : lenS s ≤ 112) : ((cutB s).size : Int) = lenS s := by
  have := lenS_range s
  unfold cutB
  rw [ByteArray.size_extract]; omega
theorem loop_bl (s : ByteArray) : ∀ (d i : Nat) (r : List UInt8), i + d = s.size → ByteArray.toList.loop s i r = r.reverse ++ (bl s).drop i := by
  intro d
  induction d with
  | zero =>
    intro i r h
    rw [ByteArray.toList.loop, if_neg (by omega), List.drop_of_length_le (by rw [bl_len]; omega), List.append_nil]
  | succ d ih =>
    intro i r h
    have hi : i < s.size := by omega
    have hl : i < (bl s).length := by rw [bl_len]; exact hi
    rw [ByteArray.toList.loop, if_pos hi, ih (i + 1) _ (by omega), List.drop_eq_getElem_cons hl, List.reverse_cons, List.append_assoc]
    have e : s.get! i = (bl s)[i] := by
      show s.data[i]! = s.data.toList[i]
      have hd : i < s.data.size := hi
      rw [getElem!_pos s.data i hd]
      exact (Array.getElem_toList hd).symm
    rw [e]
    rfl
theorem toList_bl (s : ByteArray) : s.toList = bl s := by
  show ByteArray.toList.loop s 0 [] = _
  rw [loop_bl s s.size 0 [] (by omega)]
  rfl
theorem unpack_eq (k : Nat) (s : ByteArray) : slab_Unpack.f (k + 5) s = some (unpackF s) := by
  unfold slab_Unpack.f unpackF
  by_cases hs : s.size = 128
  · have a := bt_range s 8; have b := bt_range s 9
    have hL := lenS_range s
    have hl : bits .or .i64 (wrap64 ((wrap64 (bt s 8)) * 256)) (wrap64 (bt s 9)) = lenS s := by
      rw [w64 (x := bt s 8) (by omega) (by omega), w64 (x := bt s 9) (by omega) (by omega), w64 (by omega) (by omega), or64 _ _ (by omega) (by omega) (by omega) (by omega)]
      rfl
    rw [if_pos (by omega), if_pos (by omega), if_pos (by omega), hl]
    by_cases h1 : lenS s > 112
    · rw [if_pos h1, if_neg (fun q => by have := q.2.1; omega)]
    · have hw : wrap64 (12 + lenS s) = 12 + lenS s := w64 (by omega) (by omega)
      have h4 : 4 ≤ (s.extract 4 s.size).size := by rw [ByteArray.size_extract]; omega
      have e1 : (12 + lenS s).toNat = 12 + (lenS s).toNat := by omega
      rw [if_neg h1, get_eq k s (by omega)]
      simp only [Option.bind_some]
      rw [if_pos (by omega), get_eq k _ h4]
      simp only [Option.bind_some]
      rw [hw, if_pos (by omega), if_pos (by omega), e1, pack_eq _ _ _ (numB_range _) (numB_range _)]
      simp only [Option.bind_some]
      have hcz := cutB_size s hs (by omega)
      have hP := packI_bl (numB s) (numB (s.extract 4 s.size)) (cutB s) (numB_range _) (numB_range _) (by omega)
      rw [toList_bl, toList_bl]
      show (if bl (packI (numB s) (numB (s.extract 4 s.size)) (cutB s)).1 = bl s then _ else _) = _
      rw [hP.1]
      by_cases q : secL (numB s) (numB (s.extract 4 s.size)) (bl (cutB s)) = bl s
      · rw [if_pos q, if_pos ⟨hs, by omega, q⟩]; rfl
      · rw [if_neg q, if_neg (fun z => q z.2.2)]
  · rw [if_neg (by omega), if_neg (fun q => hs q.1)]
theorem getD_cut (l : List UInt8) (a n j : Nat) (h : j < n) : ((l.drop a).take n).getD j 0 = l.getD (a + j) 0 := by
  rw [List.getD_eq_getElem?_getD, List.getD_eq_getElem?_getD, List.getElem?_take_of_lt h, List.getElem?_drop]
theorem numB_cut (s : ByteArray) (a b : Nat) (h : a + 4 ≤ b) (hb : b ≤ s.size) : numB (s.extract a b) = num4 ((bl s).getD a 0) ((bl s).getD (a + 1) 0) ((bl s).getD (a + 2) 0) ((bl s).getD (a + 3) 0) := by
  rw [numB_bl _ (by rw [ByteArray.size_extract]; omega), bl_cut, getD_cut _ _ _ _ (by omega), getD_cut _ _ _ _ (by omega), getD_cut _ _ _ _ (by omega), getD_cut _ _ _ _ (by omega)]
  rfl
theorem unpack_sec (e i : Int) (b s : ByteArray) (he : 0 ≤ e ∧ e < 4294967296) (hi : 0 ≤ i ∧ i < 4294967296) (hb : b.size ≤ 112) (h : bl s = secL e i (bl b)) : unpackF s = (e, i, b, 0) := by
  have hbl : (bl b).length ≤ 112 := by rw [bl_len]; exact hb
  have hs : s.size = 128 := by rw [← bl_len, h, secL_len e i _ hbl]
  have r := read_sec e i (bl b) he hi hbl
  rw [← h] at r
  unfold readL at r
  simp only [Prod.mk.injEq] at r
  have g8 : (bl s).getD 8 0 = 0 := by
    rw [h]; rfl
  have g9 : (bl s).getD 9 0 = UInt8.ofNat (bl b).length := by
    rw [h]; rfl
  have t8 := bt_bl s 8 (by omega)
  have t9 := bt_bl s 9 (by omega)
  rw [g8] at t8
  rw [g9, bl_len, UInt8.toNat_ofNat'] at t9
  have hL : lenS s = b.size := by
    unfold lenS
    rw [show bt s 8 = _ from t8, show bt s 9 = _ from t9]
    simp; omega
  have eE : nE s = e := by unfold nE; rw [numB_bl s (by omega)]; exact r.1
  have eI : nI s = i := by unfold nI; rw [numB_cut s 4 s.size (by omega) (by omega)]; exact r.2.1
  have eB : cutB s = b := by
    apply bl_ext
    unfold cutB
    rw [bl_cut, hL]
    have q := r.2.2
    rw [g9, bl_len, UInt8.toNat_ofNat', show b.size % 2 ^ 8 = b.size by omega] at q
    rw [show 12 + (b.size : Int).toNat - 12 = b.size by omega]
    exact q
  have hS : isSec s := ⟨hs, by omega, by rw [eE, eI, eB, h]⟩
  unfold unpackF
  rw [if_pos hS, eE, eI, eB]
theorem unpack_calls (s : ByteArray) (w : World) : Calls Try.prog 48 #[.string s] w fun e w' => e = .returned (.tuple #[.agg #[.int .u32 (unpackF s).1, .int .u32 (unpackF s).2.1, .string (unpackF s).2.2.1], .int .i64 (unpackF s).2.2.2]) ∧ Below w.heap.size w w' :=
  slab_Unpack.calls 5 s _ _ _ _ w (unpack_eq 0 s)
theorem pack_calls (e i : Int) (b : ByteArray) (he : 0 ≤ e ∧ e < 4294967296) (hi : 0 ≤ i ∧ i < 4294967296) (w : World) : Calls Try.prog 55 #[.agg #[.int .u32 e, .int .u32 i, .string b]] w fun f w' => f = .returned (.tuple #[.string (packI e i b).1, .int .i64 (packI e i b).2]) ∧ Below w.heap.size w w' :=
  slab_Pack.calls e i b _ _ w (pack_eq e i b he hi)
/-- What was packed is told again. -/
theorem unpack_pack (e i : Int) (b : ByteArray) (he : 0 ≤ e ∧ e < 4294967296) (hi : 0 ≤ i ∧ i < 4294967296) (hb : b.size ≤ 112) : unpackF (packI e i b).1 = (e, i, b, 0) := unpack_sec e i b _ he hi hb (packI_bl e i b he hi hb).1
end Go.Proofs.Ytcelfhoomhmioaa.X12
set_option maxRecDepth 8192
namespace Go.Proofs.Ytcelfhoomhmioaa.Wl
open Go Go.RowKit Go.ChangeMaps Go.Proofs.Ytcelfhoomhmioaa.Arr Go.Proofs.Ytcelfhoomhmioaa.Mp Go.Proofs.Ytcelfhoomhmioaa.Ow Go.Proofs.Ytcelfhoomhmioaa.Dk Go.Proofs.Ytcelfhoomhmioaa.Fr Go.Proofs.YtcelfhoomhmioaaW.PrintWords Go.Proofs.YtcelfhoomhmioaaW.PrintLast Go.Proofs.YtcelfhoomhmioaaW.PrintMore
set_option linter.unusedVariables false
set_option linter.unusedSimpArgs false
theorem set_blk {w : World} {g : Nat} {cs : Array Value} {t : TypeId} {fr : Nat × Nat} (h : w.heap[g]? = some (.cells cs t fr)) (i : Nat) (u : Value) : (w.setCell ⟨g, i, none⟩ u).heap[g]? = some (.cells (cs.setIfInBounds i u) t fr) := by
  simp only [World.setCell]
  rw [Array.getElem?_modify, if_pos rfl, h]
  rfl
theorem empty_iff (b : ByteArray) : b.toList.isEmpty = decide (b = ⟨#[]⟩) := by
  rw [X12.toList_bl]
  cases h : decide (b = ⟨#[]⟩) with
  | true => rw [decide_eq_true_iff] at h; subst h; rfl
  | false =>
    rw [decide_eq_false_iff_not] at h
    rw [List.isEmpty_eq_false_iff]
    intro e
    exact h (X12.bl_ext (e.trans rfl))
abbrev TLg : TypeId := 96
/-- What a log holds, beside its disk. -/
structure WS where
  base : Int
  n : Int
  low : Int
  first : Int
  op : Int
  ep : Int
  f : Int → Option ByteArray
/-- The body of a sector. -/
abbrev bdy (W : WS) (i : Int) : ByteArray := (W.f i).getD ⟨#[]⟩
def LB (w : World) (gl g m : Nat) (W : WS) : Prop := w.heap[gl]? = some (.cells #[.pointer (some ⟨g, 0, none⟩), .int .i64 W.base, .int .i64 W.n, .int .i64 W.low, .int .i64 W.first, .int .i64 W.op, .int .u32 W.ep, .map (some m)] TLg (0, 0))
/-- A log: its own blocks are of colour 3. -/
structure LO (w : World) (c : Nat → Nat) (gl m : Nat) (g : Nat) (W : WS) : Prop where
  blk : LB w gl g m W
  map : MP w m W.f
  cl : c gl = 3
  cm : c m = 3
section
variable {M : List Nat} {w w' w0 : World} {c c' : Nat → Nat} {gl m g : Nat} {W : WS} {d d' : DS}
theorem LO.lt (h : LO w c gl m g W) : gl < w.heap.size := blk_lt' h.blk
theorem LO.keep (h : LO w c gl m g W) (hf : Fr M w c w' c') (h3 : 3 ∉ M) : LO w' c' gl m g W :=
  ⟨(hf.blk gl h.lt (by rw [h.cl]; exact h3)).trans h.blk, h.map.same (hf.blk m h.map.lt (by rw [h.cm]; exact h3)), (hf.col gl h.lt).trans h.cl, (hf.col m h.map.lt).trans h.cm⟩
theorem LO.below (h : LO w c gl m g W) (hb : Below w.heap.size w w') : LO w' c gl m g W := h.keep (Fr.of_below (M := []) hb) (by simp)
theorem LO.drew (h : LO w c gl m g W) : LO w.drew c gl m g W := h.below ((Below.refl _ _).drew)
theorem LO.c0 (h : LO w c gl m g W) : w.cell? ⟨gl, 0, none⟩ = some (.pointer (some ⟨g, 0, none⟩)) := blk_cell h.blk 0
theorem LO.c1 (h : LO w c gl m g W) : w.cell? ⟨gl, 1, none⟩ = some (.int .i64 W.base) := blk_cell h.blk 1
theorem LO.c2 (h : LO w c gl m g W) : w.cell? ⟨gl, 2, none⟩ = some (.int .i64 W.n) := blk_cell h.blk 2
theorem LO.c3 (h : LO w c gl m g W) : w.cell? ⟨gl, 3, none⟩ = some (.int .i64 W.low) := blk_cell h.blk 3
theorem LO.c4 (h : LO w c gl m g W) : w.cell? ⟨gl, 4, none⟩ = some (.int .i64 W.first) := blk_cell h.blk 4
theorem LO.c5 (h : LO w c gl m g W) : w.cell? ⟨gl, 5, none⟩ = some (.int .i64 W.op) := blk_cell h.blk 5
theorem LO.c6 (h : LO w c gl m g W) : w.cell? ⟨gl, 6, none⟩ = some (.int .u32 W.ep) := blk_cell h.blk 6
theorem LO.c7 (h : LO w c gl m g W) : w.cell? ⟨gl, 7, none⟩ = some (.map (some m)) := blk_cell h.blk 7
theorem LO.fz (h : LO w c gl m g W) (i : Nat) : w.frozen? ⟨gl, i, none⟩ = false := blk_frozen h.blk i
theorem LO.ne (h : LO w c gl m g W) : gl ≠ m := (MP.ne_cells h.map h.blk).symm
/-- A field is set. -/
theorem LO.set (h : LO w c gl m g W) (i : Nat) (v : Value) {W' : WS} (hc : #[.pointer (some ⟨g, 0, none⟩), .int .i64 W.base, .int .i64 W.n, .int .i64 W.low, .int .i64 W.first, .int .i64 W.op, .int .u32 W.ep, .map (some m)].setIfInBounds i v = #[.pointer (some ⟨g, 0, none⟩), .int .i64 W'.base, .int .i64 W'.n, .int .i64 W'.low, .int .i64 W'.first, .int .i64 W'.op, .int .u32 W'.ep, .map (some m)]) (hF : W'.f = W.f) : LO (w.setCell ⟨gl, i, none⟩ v) c gl m g W' ∧ Fr [3] w c (w.setCell ⟨gl, i, none⟩ v) c := by
  have hf := (FS.refl (fun k => k = gl) w).setCell (p := ⟨gl, i, none⟩) (.inl rfl) v
  refine ⟨⟨?_, ?_, h.cl, h.cm⟩, Fr.of_fs hf (fun _ _ => rfl) (fun k _ e => by rw [e, h.cl]; simp)⟩
  · unfold LB
    simp only [World.setCell]
    rw [Array.getElem?_modify, if_pos rfl, h.blk, ← hc]
    rfl
  · rw [hF]
    exact h.map.same (Below.heap_setCell w ⟨gl, i, none⟩ v m h.ne.symm)
/-- The map is turned. -/
theorem LO.turn (h : LO w c gl m g W) {o : Obj} {f' : Int → Option ByteArray} (ho : MP (setBlock w m o) m f') : LO (setBlock w m o) c gl m g { W with f := f' } ∧ Fr [3] w c (setBlock w m o) c := by
  have hf := (FS.refl (fun k => k = m) w).setBlock (m := m) (.inl rfl) o
  exact ⟨⟨(setBlock_other w m o h.ne).trans h.blk, ho, h.cl, h.cm⟩, Fr.of_fs hf (fun _ _ => rfl) (fun k _ e => by rw [e, h.cm]; simp)⟩
end
theorem run_lookup0 {w : World} {m : Nat} {f : Int → Option ByteArray} (h : MP w m f) (i : Int) : (Instr.lookup 94 (.map (some m)) (.int .i64 i) false).run Try.prog w = .ok (.string ((f i).getD ⟨#[]⟩)) w := by
  have ht : Try.prog.underlying 94 = some (.map 3 9) := by kernel_rfl
  have hk : Try.prog.underlying 3 = some (.int .i64) := by kernel_rfl
  have hz : ∀ w, (zeroValue 9).run Try.prog w = .ok (.string ⟨#[]⟩) w := fun w => by kernel_rfl
  obtain ⟨L, c, h1, h2, h3⟩ := h
  have hf : (Instr.findKey 3 (.int .i64 i) (L.map ent)).run Try.prog w = .ok ((findM L i 0).map fun p => (p.1, .string p.2)) w := by
    simp [Instr.findKey, run_underlying hk, findNow_eq]
  have hg := find_get i L 0
  rw [h3] at hg
  cases hq : findM L i 0 with
  | none =>
    rw [hq] at hf hg
    have : f i = none := hg.symm
    simp [Instr.lookup, run_underlying ht, MapKept.run_getObj_map h1, checkKey_int hk, ents, hf, hz, this, Result.andThen]
  | some p =>
    rw [hq] at hf hg
    have : f i = some p.2 := hg.symm
    simp [Instr.lookup, run_underlying ht, MapKept.run_getObj_map h1, checkKey_int hk, ents, hf, hz, this, Result.andThen]
section
variable {w : World} {c : Nat → Nat} {gl m g : Nat} {W : WS}
/-- The number of a place's sector. -/
def sctr (at_ : Int) : Int := at_.tdiv 128
def safeW (W : WS) (at_ : Int) : Bool := decide (sctr at_ < W.first)
theorem safe_calls (h : LO w c gl m g W) (at_ : Int) (ha : -9223372036854775808 ≤ at_ ∧ at_ < 9223372036854775808) : Calls Try.prog 24 #[.pointer (some ⟨gl, 0, none⟩), .int .i64 at_] w fun e w' => e = .returned (.bool (safeW W at_)) ∧ Below w.heap.size w w' := by
  have c4 := h.c4
  have hw : wrap64 (at_.tdiv 128) = at_.tdiv 128 := by
    have h1 : (at_.tdiv 128).natAbs = at_.natAbs / 128 := Int.natAbs_tdiv at_ 128
    unfold wrap64; omega
  clear h
  go_enter Try.func24, Try.ntmps24
  go_wp2
  go_ret
  refine ⟨?_, Below.refl _ _⟩
  unfold safeW sctr
  first | rfl | (simp [hw])
end
end Go.Proofs.Ytcelfhoomhmioaa.Wl
set_option maxRecDepth 8192
namespace Go.Proofs.Ytcelfhoomhmioaa.Pl
open Go Go.RowKit Go.ChangeMaps Go.Proofs.Ytcelfhoomhmioaa.Arr Go.Proofs.Ytcelfhoomhmioaa.Ow Go.Proofs.Ytcelfhoomhmioaa.Dk Go.Proofs.Ytcelfhoomhmioaa.Fr Go.Proofs.YtcelfhoomhmioaaW.PrintWords Go.Proofs.YtcelfhoomhmioaaW.PrintLast Go.Proofs.YtcelfhoomhmioaaW.PrintMore Go.Proofs.Ytcelfhoomhmioaa.Wl
set_option linter.unusedVariables false
set_option linter.unusedSimpArgs false
abbrev TPl : TypeId := 74
abbrev TFr : TypeId := 76
/-- A frame. -/
structure FrS where
  pg : Int
  a : Int
  dt : ByteArray
  di : Bool
  si : Int
/-- An empty one. -/
def noF : FrS := ⟨-1, 0, ⟨#[]⟩, false, 0⟩
/-- Its cells. -/
def fv (f : FrS) : Nat → Value
  | 0 => .int .i64 f.pg
  | 1 => .int .i64 f.a
  | 2 => .string f.dt
  | 3 => .bool f.di
  | _ => .int .i64 f.si
/-- What a pool holds. -/
structure PS where
  fr : List FrS
  wh : Int → Option Int
  hand : Nat
/-- Block fb has the frames. -/
def FR (w : World) (fb : Nat) (L : List FrS) : Prop := ∃ cs, w.heap[fb]? = some (.cells cs TFr (0, 0)) ∧ ∀ k f, L[k]? = some f → ∀ j, j < 5 → cs[k * 5 + j]? = some (fv f j)
section
variable {w w' : World} {fb : Nat} {L : List FrS}
theorem of5 {p : Nat → Prop} (h0 : p 0) (h1 : p 1) (h2 : p 2) (h3 : p 3) (h4 : p 4) : ∀ i, i < 5 → p i := fun i hi => by
  match i, hi with
  | 0, _ => exact h0
  | 1, _ => exact h1
  | 2, _ => exact h2
  | 3, _ => exact h3
  | 4, _ => exact h4
  | q + 5, h => omega
theorem FR.lt (h : FR w fb L) : fb < w.heap.size := by
  obtain ⟨cs, h1, _⟩ := h
  exact blk_lt' h1
theorem FR.same (h : FR w fb L) (e : w'.heap[fb]? = w.heap[fb]?) : FR w' fb L := by
  obtain ⟨cs, h1, h2⟩ := h
  exact ⟨cs, e.trans h1, h2⟩
theorem FR.cell (h : FR w fb L) {k : Nat} {f : FrS} (hk : L[k]? = some f) (j : Nat) (hj : j < 5) : w.cell? ⟨fb, k * 5 + j, none⟩ = some (fv f j) := by
  obtain ⟨cs, h1, h2⟩ := h
  have h3 := h2 k f hk j hj
  have hlt : k * 5 + j < cs.size := by
    rcases Nat.lt_or_ge (k * 5 + j) cs.size with h4 | h4
    · exact h4
    · rw [Array.getElem?_eq_none h4] at h3; cases h3
  simp only [World.cell?, h1]
  exact h3
theorem FR.fz (h : FR w fb L) (i : Nat) : w.frozen? ⟨fb, i, none⟩ = false := by
  obtain ⟨cs, h1, _⟩ := h
  exact blk_frozen h1 i
/-- One cell of a frame is set. -/
theorem FR.set1 (h : FR w fb L) {k : Nat} {f f' : FrS} (hk : L[k]? = some f) (j : Nat) (hj : j < 5) (v : Value) (hv : fv f' j = v) (ho : ∀ i, i < 5 → i ≠ j → fv f' i = fv f i) : FR (w.setCell ⟨fb, k * 5 + j, none⟩ v) fb (L.set k f') := by
  obtain ⟨cs, h1, h2⟩ := h
  refine ⟨cs.setIfInBounds (k * 5 + j) v, ?_, fun q g hq i hi => ?_⟩
  · simp only [World.setCell]
    rw [Array.getElem?_modify, if_pos rfl, h1]
    rfl
  · have h3 := h2 k f hk j hj
    have hlt : k * 5 + j < cs.size := by
      rcases Nat.lt_or_ge (k * 5 + j) cs.size with h4 | h4
      · exact h4
      · rw [Array.getElem?_eq_none h4] at h3; cases h3
    have hkl : k < L.length := by
      rcases Nat.lt_or_ge k L.length with h4 | h4
      · exact h4
      · rw [List.getElem?_eq_none h4] at hk; cases hk
    rw [Array.getElem?_setIfInBounds]
    by_cases e : k * 5 + j = q * 5 + i
    · rw [if_pos e, if_pos hlt]
      obtain rfl : k = q := by omega
      obtain rfl : j = i := by omega
      rw [List.getElem?_set_self hkl] at hq
      injection hq with hq
      subst hq
      rw [hv]
    · rw [if_neg e]
      by_cases ek : k = q
      · subst ek
        rw [List.getElem?_set_self hkl] at hq
        injection hq with hq
        subst hq
        rw [ho i hi (fun e2 => e (by rw [e2]))]
        exact h2 k f hk i hi
      · rw [List.getElem?_set_ne ek] at hq
        exact h2 q g hq i hi
/-- A whole frame is set. -/
theorem FR.set5 (h : FR w fb L) {k : Nat} {f : FrS} (hk : L[k]? = some f) (f' : FrS) : FR (w.setCells fb (k * 5) [fv f' 0, fv f' 1, fv f' 2, fv f' 3, fv f' 4]) fb (L.set k f') := by
  have hkl : k < L.length := by
    rcases Nat.lt_or_ge k L.length with h4 | h4
    · exact h4
    · rw [List.getElem?_eq_none h4] at hk; cases hk
  have step : ∀ {w : World} {L : List FrS} (f1 f2 : FrS) (j : Nat), k < L.length → FR w fb L → L[k]? = some f1 → j < 5 → (∀ i, i < 5 → i ≠ j → fv f2 i = fv f1 i) → FR (w.setCell ⟨fb, k * 5 + j, none⟩ (fv f2 j)) fb (L.set k f2) ∧ (L.set k f2)[k]? = some f2 :=
    fun f1 f2 j hl hF hk hj ho => ⟨hF.set1 hk j hj _ rfl ho, List.getElem?_set_self hl⟩
  have s0 := step f { f with pg := f'.pg } 0 hkl h hk (by decide) (of5 (fun h => absurd rfl h) (fun _ => rfl) (fun _ => rfl) (fun _ => rfl) (fun _ => rfl))
  have s1 := step _ { f with pg := f'.pg, a := f'.a } 1 (by rw [List.length_set]; exact hkl) s0.1 s0.2 (by decide) (of5 (fun _ => rfl) (fun h => absurd rfl h) (fun _ => rfl) (fun _ => rfl) (fun _ => rfl))
  have s2 := step _ { f with pg := f'.pg, a := f'.a, dt := f'.dt } 2 (by simp only [List.length_set]; exact hkl) s1.1 s1.2 (by decide) (of5 (fun _ => rfl) (fun _ => rfl) (fun h => absurd rfl h) (fun _ => rfl) (fun _ => rfl))
  have s3 := step _ { f with pg := f'.pg, a := f'.a, dt := f'.dt, di := f'.di } 3 (by simp only [List.length_set]; exact hkl) s2.1 s2.2 (by decide) (of5 (fun _ => rfl) (fun _ => rfl) (fun _ => rfl) (fun h => absurd rfl h) (fun _ => rfl))
  have s4 := step _ f' 4 (by simp only [List.length_set]; exact hkl) s3.1 s3.2 (by decide) (of5 (fun _ => rfl) (fun _ => rfl) (fun _ => rfl) (fun _ => rfl) (fun h => absurd rfl h))
  have s5 := s4.1
  simp only [List.set_set] at s5
  exact s5
/-- A frame's page is set. -/
theorem FR.set2 (h : FR w fb L) {k : Nat} {f : FrS} (hk : L[k]? = some f) (a : Int) (dt : ByteArray) : FR (w.setCells fb (k * 5 + 1) [.int .i64 a, .string dt]) fb (L.set k { f with a := a, dt := dt }) := by
  have hkl : k < L.length := by
    rcases Nat.lt_or_ge k L.length with h4 | h4
    · exact h4
    · rw [List.getElem?_eq_none h4] at hk; cases hk
  have s1 := h.set1 (f' := { f with a := a }) hk 1 (by decide) (.int .i64 a) rfl (of5 (fun _ => rfl) (fun h => absurd rfl h) (fun _ => rfl) (fun _ => rfl) (fun _ => rfl))
  have s2 := s1.set1 (f' := { f with a := a, dt := dt }) (List.getElem?_set_self hkl) 2 (by decide) (.string dt) rfl (of5 (fun _ => rfl) (fun _ => rfl) (fun h => absurd rfl h) (fun _ => rfl) (fun _ => rfl))
  rw [List.set_set] at s2
  exact s2
end
/-- A pool over a store and a log. -/
structure PO (w : World) (c : Nat → Nat) (gp fb m gs gl n cp : Nat) (P : PS) : Prop where
  blk : Fr.Loc w c gp 4 #[.pointer (some ⟨gs, 0, none⟩), .pointer (some ⟨gl, 0, none⟩), .slice (some ⟨fb, 0, none⟩) n cp, .map (some m), .int .i64 P.hand] TPl
  row : FR w fb P.fr
  map : Mi.MP w m P.wh
  cf : c fb = 4
  cm : c m = 4
  len : P.fr.length = n
  cap : n ≤ cp
  nn : n ≤ 8
section
variable {M : List Nat} {w w' : World} {c c' : Nat → Nat} {gp fb m gs gl n cp : Nat} {P : PS}
theorem PO.keep (h : PO w c gp fb m gs gl n cp P) (hf : Fr M w c w' c') (h4 : 4 ∉ M) : PO w' c' gp fb m gs gl n cp P :=
  ⟨h.blk.keep hf h4, h.row.same (hf.blk fb h.row.lt (by rw [h.cf]; exact h4)), h.map.same (hf.blk m h.map.lt (by rw [h.cm]; exact h4)), (hf.col fb h.row.lt).trans h.cf, (hf.col m h.map.lt).trans h.cm, h.len, h.cap, h.nn⟩
theorem PO.below (h : PO w c gp fb m gs gl n cp P) (hb : Below w.heap.size w w') : PO w' c gp fb m gs gl n cp P := h.keep (Fr.of_below (M := []) hb) (by simp)
theorem PO.drew (h : PO w c gp fb m gs gl n cp P) : PO w.drew c gp fb m gs gl n cp P := h.below ((Below.refl _ _).drew)
theorem PO.c0 (h : PO w c gp fb m gs gl n cp P) : w.cell? ⟨gp, 0, none⟩ = some (.pointer (some ⟨gs, 0, none⟩)) := blk_cell h.blk.blk 0
theorem PO.c1 (h : PO w c gp fb m gs gl n cp P) : w.cell? ⟨gp, 1, none⟩ = some (.pointer (some ⟨gl, 0, none⟩)) := blk_cell h.blk.blk 1
theorem PO.c2 (h : PO w c gp fb m gs gl n cp P) : w.cell? ⟨gp, 2, none⟩ = some (.slice (some ⟨fb, 0, none⟩) n cp) := blk_cell h.blk.blk 2
theorem PO.c3 (h : PO w c gp fb m gs gl n cp P) : w.cell? ⟨gp, 3, none⟩ = some (.map (some m)) := blk_cell h.blk.blk 3
theorem PO.c4 (h : PO w c gp fb m gs gl n cp P) : w.cell? ⟨gp, 4, none⟩ = some (.int .i64 P.hand) := blk_cell h.blk.blk 4
theorem PO.fz (h : PO w c gp fb m gs gl n cp P) (i : Nat) : w.frozen? ⟨gp, i, none⟩ = false := blk_frozen h.blk.blk i
theorem PO.ffz (h : PO w c gp fb m gs gl n cp P) (i : Nat) : w.frozen? ⟨fb, i, none⟩ = false := h.row.fz i
theorem PO.fcell (h : PO w c gp fb m gs gl n cp P) {k : Nat} {f : FrS} (hk : P.fr[k]? = some f) (j : Nat) (hj : j < 5) : w.cell? ⟨fb, k * 5 + j, none⟩ = some (fv f j) := h.row.cell hk j hj
theorem PO.ne (h : PO w c gp fb m gs gl n cp P) : fb ≠ gp := by
  rintro rfl
  obtain ⟨cs, h1, _⟩ := h.row
  have h2 := h.blk.blk
  rw [h1] at h2
  injection h2 with h2
  injection h2 with _ h2 _
  exact absurd h2 (by decide)
theorem cells_not_map {w : World} {m : Nat} {f : Int → Option Int} {cs : Array Value} {t : TypeId} {fr : Nat × Nat} (h : Mi.MP w m f) {b : Nat} (hb : w.heap[b]? = some (.cells cs t fr)) : b ≠ m := by
  rintro rfl
  obtain ⟨L, c, h1, _⟩ := h
  rw [hb] at h1
  cases h1
theorem PO.ne_m (h : PO w c gp fb m gs gl n cp P) : gp ≠ m ∧ fb ≠ m := by
  refine ⟨cells_not_map h.map h.blk.blk, ?_⟩
  obtain ⟨cs, h1, _⟩ := h.row
  exact cells_not_map h.map h1
/-- The hand is set. -/
theorem PO.hand (h : PO w c gp fb m gs gl n cp P) (x : Nat) : PO (w.setCell ⟨gp, 4, none⟩ (.int .i64 x)) c gp fb m gs gl n cp { P with hand := x } ∧ Fr [4] w c (w.setCell ⟨gp, 4, none⟩ (.int .i64 x)) c := by
  have hf := h.blk.set_fr 4 (.int .i64 x)
  exact ⟨⟨h.blk.set 4 _, h.row.same (Below.heap_setCell w ⟨gp, 4, none⟩ _ fb h.ne), h.map.same (Below.heap_setCell w ⟨gp, 4, none⟩ _ m h.ne_m.1.symm), h.cf, h.cm, h.len, h.cap, h.nn⟩, hf⟩
/-- Cells of the frames are set. -/
theorem fs_cells (fb : Nat) : ∀ (vs : List Value) (o : Nat) (w : World), FS (fun k => k = fb) w (w.setCells fb o vs)
  | [], o, w => FS.refl _ w
  | v :: r, o, w => by
    have h1 := (FS.refl (fun k => k = fb) w).setCell (p := ⟨fb, o, none⟩) (.inl rfl) v
    have h2 := fs_cells fb r (o + 1) (w.setCell ⟨fb, o, none⟩ v)
    exact ⟨h2.os.trans h1.os, h2.tape.trans h1.tape, h2.output.trans h1.output, Nat.le_trans h1.size h2.size, fun k hk hn => (h2.block k (Nat.lt_of_lt_of_le hk h1.size) hn).trans (h1.block k hk hn)⟩
theorem fr_cells (w : World) (c : Nat → Nat) (fb o : Nat) (vs : List Value) (hc : c fb = 4) : Fr [4] w c (w.setCells fb o vs) c := Fr.of_fs (fs_cells fb vs o w) (fun _ _ => rfl) (fun k _ e => by rw [e, hc]; simp)
theorem PO.cells (h : PO w c gp fb m gs gl n cp P) {o : Nat} {vs : List Value} {L : List FrS} (hr : FR (w.setCells fb o vs) fb L) (hl : L.length = n) : PO (w.setCells fb o vs) c gp fb m gs gl n cp { P with fr := L } ∧ Fr [4] w c (w.setCells fb o vs) c := by
  have hf := fr_cells w c fb o vs h.cf
  exact ⟨⟨⟨((fs_cells fb vs o w).block gp h.blk.lt h.ne.symm).trans h.blk.blk, h.blk.col⟩, hr, h.map.same ((fs_cells fb vs o w).block m h.map.lt h.ne_m.2.symm), h.cf, h.cm, hl, h.cap, h.nn⟩, hf⟩
/-- The map is turned. -/
theorem PO.turn (h : PO w c gp fb m gs gl n cp P) {o : Obj} {f' : Int → Option Int} (ho : Mi.MP (setBlock w m o) m f') : PO (setBlock w m o) c gp fb m gs gl n cp { P with wh := f' } ∧ Fr [4] w c (setBlock w m o) c := by
  have hf := (FS.refl (fun k => k = m) w).setBlock (m := m) (.inl rfl) o
  exact ⟨⟨⟨(Mi.setBlock_other w m o h.ne_m.1).trans h.blk.blk, h.blk.col⟩, h.row.same (Mi.setBlock_other w m o h.ne_m.2), ho, h.cf, h.cm, h.len, h.cap, h.nn⟩, Fr.of_fs hf (fun _ _ => rfl) (fun k _ e => by rw [e, h.cm]; simp)⟩
end
/-- The frame of a page. -/
def holdsP (P : PS) (i : Int) : Int := (P.wh i).getD (-1)
/-- A frame is emptied, as it is. -/
def letP (P : PS) (k : Nat) : PS := { P with fr := P.fr.set k noF, wh := fun j => if j = (P.fr.getD k noF).pg then none else P.wh j }
end Go.Proofs.Ytcelfhoomhmioaa.Pl
set_option maxRecDepth 8192
namespace Go.Proofs.Ytcelfhoomhmioaa.Pl
open Go Go.RowKit Go.ChangeMaps Go.Proofs.Ytcelfhoomhmioaa.Arr Go.Proofs.Ytcelfhoomhmioaa.Ow Go.Proofs.Ytcelfhoomhmioaa.Dk Go.Proofs.Ytcelfhoomhmioaa.Fr Go.Proofs.YtcelfhoomhmioaaW.PrintWords Go.Proofs.YtcelfhoomhmioaaW.PrintLast Go.Proofs.YtcelfhoomhmioaaW.PrintMore Go.Proofs.Ytcelfhoomhmioaa.Wl
set_option linter.unusedVariables false
set_option linter.unusedSimpArgs false
section
variable {w : World} {c : Nat → Nat} {gp fb m gs gl n cp : Nat} {P : PS}
theorem run_lookup2 {w : World} {m : Nat} {f : Int → Option Int} (h : Mi.MP w m f) (i : Int) : (Instr.lookup 47 (.map (some m)) (.int .i64 i) true).run Try.prog w = .ok (.tuple #[.int .i64 ((f i).getD 0), .bool (f i).isSome]) w := by
  have ht : Try.prog.underlying 47 = some (.map 3 3) := by kernel_rfl
  have hk : Try.prog.underlying 3 = some (.int .i64) := by kernel_rfl
  have hz : ∀ w, (zeroValue 3).run Try.prog w = .ok (.int .i64 0) w := fun w => by kernel_rfl
  exact Mi.run_lookup_mp ht hk hz h i
theorem holds_calls (h : PO w c gp fb m gs gl n cp P) (i : Int) : Calls Try.prog 12 #[.pointer (some ⟨gp, 0, none⟩), .int .i64 i] w fun e w' => e = .returned (.int .i64 (holdsP P i)) ∧ Below w.heap.size w w' := by
  have c3 := h.c3
  have hl := run_lookup2 h.map i
  unfold holdsP
  clear h
  cases e : P.wh i with
  | none =>
    rw [e] at hl
    simp only [Option.getD_none, Option.isSome_none] at hl
    go_enter Try.func12, Try.ntmps12
    go_wp2
    go_ret
    exact ⟨rfl, Below.refl _ _⟩
  | some v =>
    rw [e] at hl
    simp only [Option.getD_some, Option.isSome_some] at hl
    go_enter Try.func12, Try.ntmps12
    go_wp2
    go_ret
    exact ⟨rfl, Below.refl _ _⟩
end
end Go.Proofs.Ytcelfhoomhmioaa.Pl
set_option maxRecDepth 8192
namespace Go.Proofs.Ytcelfhoomhmioaa.Pl
open Go.Proofs.Ytcelfhoomhmioaa.Rgn
open Go Go.RowKit Go.ChangeMaps Go.Proofs.Ytcelfhoomhmioaa.Arr Go.Proofs.Ytcelfhoomhmioaa.Ow Go.Proofs.Ytcelfhoomhmioaa.Dk Go.Proofs.Ytcelfhoomhmioaa.Fr Go.Proofs.YtcelfhoomhmioaaW.PrintWords Go.Proofs.YtcelfhoomhmioaaW.PrintLast Go.Proofs.YtcelfhoomhmioaaW.PrintMore Go.Proofs.Ytcelfhoomhmioaa.Wl
set_option linter.unusedVariables false
set_option linter.unusedSimpArgs false
/-- 'delete' in a region that draws, its run known. -/
theorem del_ {P : Program} {ops : Array Oper} {Q : Exit → Act → World → Prop} {oi : Oper} {N : Option Tmp} {a : Act} {w w1 : World} {v : Value} {K : Act → World → Prop} (s x : Operand) (t t2 : TypeId) (hw : Region.wanted oi (yielded ops a.tmps) = true) (hN : oi.dst = N)
    (ho : oi.op = .call { callee := .builtin .delete, args := #[s, x], argTypes := #[t, t2] }) (v1 v2 : Value) (hs : a.eval s = v1) (hx : a.eval x = v2) (hr : (Builtin.delete_ #[t, t2] oi.type #[v1, v2]).run P w = .ok v w1)
    (h : K (a.put N v) w1) : if Region.wanted oi (yielded ops a.tmps) = true then Oper.wp P oi a w K Q else K (a.put N undef) w := by
  refine value_ hw hN ?_ h
  unfold execOp
  simp only [ho, resolve, invoke, builtin, Sem.run_bind, Sem.run_pure, Result.andThen_ok, List.map_toArray, List.map_cons, List.map_nil, hs, hx, hr]
section
variable {w : World} {c : Nat → Nat} {gp fb m gs gl n cp : Nat} {P : PS}
theorem fr_at (h : PO w c gp fb m gs gl n cp P) {k : Nat} (hk : k < n) : ∃ f, P.fr[k]? = some f ∧ P.fr.getD k noF = f := by
  have h1 : k < P.fr.length := by rw [h.len]; exact hk
  exact ⟨P.fr[k], List.getElem?_eq_getElem h1, by rw [List.getD_eq_getElem?_getD, List.getElem?_eq_getElem h1]; rfl⟩
set_option maxHeartbeats 4000000 in
theorem let_calls (h : PO w c gp fb m gs gl n cp P) (k : Nat) (hk : k < n) : Calls Try.prog 33 #[.pointer (some ⟨gp, 0, none⟩), .int .i64 (k : Int)] w fun e w' => e = .returned (.tuple #[]) ∧ Fr [4] w c w' c ∧ PO w' c gp fb m gs gl n cp (letP P k) := by
  obtain ⟨f, hf, hg⟩ := fr_at h hk
  have hki : (k : Int) < (n : Int) := by omega
  have hk0 : (0 : Int) ≤ (k : Int) := by omega
  have HK := Aside0.mk hk; have HF := Aside0.mk hf; have HG := Aside0.mk hg
  have HP := Aside0.mk h.drew
  have HR := Aside0.mk (Fr.of_below (M := [4]) (c := c) ((Below.refl w.heap.size w).drew))
  clear h hf hk hg
  go_enter Try.func33, Try.ntmps33
  go_upto_region 0 with (fail)
  have k2 := HP.out.c2; have k3 := HP.out.c3
  have k0 : w.drew.cell? ⟨fb, k * 5, none⟩ = some (.int .i64 f.pg) := HP.out.fcell HF.out 0 (by decide)
  obtain ⟨ob, hrun, hmp⟩ := Mi.run_delete_mp (P := Try.prog) (t := 47) (k := 3) (e := 3) (by kernel_rfl) (by kernel_rfl) HP.out.map f.pg 0
  have HM := Aside0.mk hmp; clear hmp
  refine start_ (n := 13) (S := fun w' => w'.cell? ⟨gp, 2, none⟩ = some (.slice (some ⟨fb, 0, none⟩) n cp) ∧ w'.cell? ⟨gp, 3, none⟩ = some (.map (some m)) ∧ w'.cell? ⟨fb, k * 5, none⟩ = some (.int .i64 f.pg)) (ds := [12]) #[false, false, false, false, false, false, false, false, false, false, false, false, false] (by kernel_rfl) rfl rfl ⟨k2, k3, k0⟩ (fun hHeld => ?_)
  refine rgp 0 4 ?_
  refine rgp 1 5 ?_
  refine rgp 2 6 ?_
  refine rgp 4 8 ?_
  refine rgp 5 9 ?_
  refine rgp 6 10 ?_
  refine rgp 8 12 ?_
  refine rgt 3 7 hHeld ?_
  refine rgt 7 11 hHeld ?_
  refine rgp 9 13 ?_
  refine rgp 10 14 ?_
  refine rgt 11 15 hHeld ?_
  refine last_ (i := 12) (N := none) #[true, true, true, true, true, true, true, true, true, true, true, true, true] rfl rfl (by kernel_rfl) (by decide) (fun K hK => ?_)
  refine del_ _ _ _ _ (by kernel_rfl) rfl rfl _ _ rfl rfl hrun ?_
  refine hK _ _ ?_
  clear hK K
  refine done_ (by kernel_rfl) ?_
  have HT := HP.out.turn HM.out
  have HP2 := Aside0.mk HT.1; have HR2 := Aside0.mk (HR.out.trans HT.2)
  clear HT HM hrun k2 k3 k0 HP HR
  generalize setBlock w.drew m ob = X at *
  have c2 := HP2.out.c2
  have q0 : X.cell? ⟨fb, k * 5, none⟩ = some (.int .i64 f.pg) := HP2.out.fcell HF.out 0 (by decide)
  have q1 : X.cell? ⟨fb, k * 5 + 1, none⟩ = some (.int .i64 f.a) := HP2.out.fcell HF.out 1 (by decide)
  have q2 : X.cell? ⟨fb, k * 5 + 2, none⟩ = some (.string f.dt) := HP2.out.fcell HF.out 2 (by decide)
  have q3 : X.cell? ⟨fb, k * 5 + 3, none⟩ = some (.bool f.di) := HP2.out.fcell HF.out 3 (by decide)
  have q4 : X.cell? ⟨fb, k * 5 + 4, none⟩ = some (.int .i64 f.si) := HP2.out.fcell HF.out 4 (by decide)
  have z0 : X.frozen? ⟨fb, k * 5, none⟩ = false := HP2.out.ffz _
  have z1 : X.frozen? ⟨fb, k * 5 + 1, none⟩ = false := HP2.out.ffz _
  have z2 : X.frozen? ⟨fb, k * 5 + 2, none⟩ = false := HP2.out.ffz _
  have z3 : X.frozen? ⟨fb, k * 5 + 3, none⟩ = false := HP2.out.ffz _
  have z4 : X.frozen? ⟨fb, k * 5 + 4, none⟩ = false := HP2.out.ffz _
  go_wp2
  refine bodyPost_end (results_none rfl _ _ _) rfl ?_
  have hs := HP2.out.row.set5 (k := k) HF.out noF
  have hc := HP2.out.cells hs (by rw [List.length_set]; exact HP2.out.len)
  refine ⟨rfl, HR2.out.trans hc.2, ?_⟩
  have e : letP P k = { P with fr := P.fr.set k noF, wh := fun j => if j = f.pg then none else P.wh j } := by unfold letP; rw [HG.out]
  rw [e]
  exact hc.1
end
end Go.Proofs.Ytcelfhoomhmioaa.Pl
set_option maxRecDepth 8192
namespace Go.Proofs.Ytcelfhoomhmioaa.Wl
open Go.Proofs.Ytcelfhoomhmioaa.Rgn
open Go Go.RowKit Go.ChangeMaps Go.Proofs.Ytcelfhoomhmioaa.Arr Go.Proofs.Ytcelfhoomhmioaa.Mp Go.Proofs.Ytcelfhoomhmioaa.Ow Go.Proofs.Ytcelfhoomhmioaa.Dk Go.Proofs.Ytcelfhoomhmioaa.Fr Go.Proofs.YtcelfhoomhmioaaW.PrintWords Go.Proofs.YtcelfhoomhmioaaW.PrintLast Go.Proofs.YtcelfhoomhmioaaW.PrintMore
set_option linter.unusedVariables false
set_option linter.unusedSimpArgs false
/-- Whether a log may lie there. -/
def liesE (d : DS) (base n : Int) : Int := if n < 8 ∨ 64 < n ∨ base < 0 ∨ (d.safe.length : Int) - n < base then 1 else 0
section
variable {w : World} {c : Nat → Nat} {gl m g N : Nat} {W : WS} {d : DS}
theorem lies_calls (h : DK w (Col c 1) g d) (ho : OkN N d) (base n : Int) (hb : -9223372036854775808 ≤ base ∧ base < 9223372036854775808) (hn : -9223372036854775808 ≤ n ∧ n < 9223372036854775808) : Calls Try.prog 44 #[.pointer (some ⟨g, 0, none⟩), .int .i64 base, .int .i64 n] w fun e w' => e = .returned (.int .i64 (liesE d base n)) ∧ Below w.heap.size w w' := by
  have hlen : d.safe.length ≤ 512 := ho.1.2.2.2.1
  have HD := Aside0.mk h
  clear h ho
  unfold liesE
  by_cases a1 : n < 8
  · rw [if_pos (.inl a1)]
    have q1 : decide (n < 8) = true := decide_eq_true a1
    clear a1 hlen hb hn
    go_enter Try.func44, Try.ntmps44
    go_wp2
    go_ret
    exact ⟨rfl, Below.refl _ _⟩
  · have q1 : decide (n < 8) = false := decide_eq_false a1
    by_cases a2 : 64 < n
    · rw [if_pos (.inr (.inl a2))]
      have q2 : decide (64 < n) = true := decide_eq_true a2
      clear a1 a2 hlen hb hn
      go_enter Try.func44, Try.ntmps44
      go_wp2
      go_ret
      exact ⟨rfl, Below.refl _ _⟩
    · have q2 : decide (64 < n) = false := decide_eq_false a2
      by_cases a3 : base < 0
      · rw [if_pos (.inr (.inr (.inl a3)))]
        have q3 : decide (base < 0) = true := decide_eq_true a3
        clear a1 a2 a3 hlen hb hn
        go_enter Try.func44, Try.ntmps44
        go_wp2
        go_ret
        exact ⟨rfl, Below.refl _ _⟩
      · have q3 : decide (base < 0) = false := decide_eq_false a3
        have hw : wrap64 ((d.safe.length : Int) - n) = (d.safe.length : Int) - n := by unfold wrap64; omega
        by_cases a4 : (d.safe.length : Int) - n < base
        · rw [if_pos (.inr (.inr (.inr a4)))]
          have q4 : decide ((d.safe.length : Int) - n < base) = true := decide_eq_true a4
          clear a1 a2 a3 a4 hlen hb hn
          go_enter Try.func44, Try.ntmps44
          go_wp2_with (go_at_call 42; (with_reducible refine (size_calls d g _ _ HD.out).mono ?_); rintro e w1 ⟨rfl, hb1⟩; have HB := Aside0.mk hb1; clear hb1)
          go_ret
          exact ⟨rfl, HB.out⟩
        · rw [if_neg (by rintro (h | h | h | h) <;> omega)]
          have q4 : decide ((d.safe.length : Int) - n < base) = false := decide_eq_false a4
          clear a1 a2 a3 a4 hlen hb hn
          go_enter Try.func44, Try.ntmps44
          go_wp2_with (go_at_call 42; (with_reducible refine (size_calls d g _ _ HD.out).mono ?_); rintro e w1 ⟨rfl, hb1⟩; have HB := Aside0.mk hb1; clear hb1)
          go_ret
          exact ⟨rfl, HB.out⟩
/-- A new log. -/
abbrev newW (base n : Int) : WS := ⟨base, n, 1, 1, 1, 1, fun _ => none⟩
theorem lnew_bad (h : DK w (Col c 1) g d) (ho : OkN N d) (base n : Int) (hb : -9223372036854775808 ≤ base ∧ base < 9223372036854775808) (hn : -9223372036854775808 ≤ n ∧ n < 9223372036854775808) (hl : liesE d base n = 1) : Calls Try.prog 27 #[.pointer (some ⟨g, 0, none⟩), .int .i64 base, .int .i64 n] w fun e w' => e = .returned (.tuple #[.pointer none, .int .i64 1]) ∧ Below w.heap.size w w' := by
  have hc := lies_calls h ho base n hb hn
  rw [hl] at hc
  have HC := Aside0.mk hc
  clear hc h ho hb hn hl
  go_enter Try.func27, Try.ntmps27
  go_wp2_with (go_at_call 44; (with_reducible refine HC.out.mono ?_); rintro e w1 ⟨rfl, hb1⟩; have HB := Aside0.mk hb1; clear hb1)
  go_ret2
  exact ⟨rfl, HB.out⟩
theorem lnew_at (h : DK w (Col c 1) g d) (ho : OkN N d) (base n : Int) (hb : -9223372036854775808 ≤ base ∧ base < 9223372036854775808) (hn : -9223372036854775808 ≤ n ∧ n < 9223372036854775808) (hl : liesE d base n = 0) : Calls Try.prog 27 #[.pointer (some ⟨g, 0, none⟩), .int .i64 base, .int .i64 n] w fun e w' => ∃ gl m, e = .returned (.tuple #[.pointer (some ⟨gl, 0, none⟩), .int .i64 0]) ∧ w.heap.size ≤ gl ∧ w.heap.size ≤ m ∧ Below w.heap.size w w' ∧ LO w' (Dk.paint c w.heap.size 3) gl m g (newW base n) ∧ DK w' (Col (Dk.paint c w.heap.size 3) 1) g d := by
  have hc := lies_calls h ho base n hb hn
  rw [hl] at hc
  have HC := Aside0.mk hc; have HD := Aside0.mk h
  have hmm : ∀ W : World, (Instr.makeMap 94 none).run Try.prog W = .ok (.map (some W.heap.size)) (W.alloc (.map #[] 0)) := fun W => rfl
  clear hc h ho hb hn hl
  go_enter Try.func27, Try.ntmps27
  go_wp2_with (go_at_call 44; (with_reducible refine HC.out.mono ?_); rintro e w1 ⟨rfl, hb1⟩; have HB := Aside0.mk hb1; clear hb1)
  go_ret2
  have ba := (Below.refl w1.heap.size w1).alloc (Nat.le_refl _) (.map #[] 0)
  have hm := MP.made w1
  have bb := (Below.refl (w1.alloc (.map #[] 0)).heap.size (w1.alloc (.map #[] 0))).alloc (Nat.le_refl _) (.cells #[.pointer (some ⟨g, 0, none⟩), .int .i64 base, .int .i64 n, .int .i64 1, .int .i64 1, .int .i64 1, .int .u32 1, .map (some w1.heap.size)] TLg)
  have hall := Arr.below_trans (Arr.below_trans HB.out ba) bb
  have hsz := HB.out.size
  have hnew := heap_alloc_new (w1.alloc (.map #[] 0)) (.cells #[.pointer (some ⟨g, 0, none⟩), .int .i64 base, .int .i64 n, .int .i64 1, .int .i64 1, .int .i64 1, .int .u32 1, .map (some w1.heap.size)] TLg)
  rw [show (w1.alloc (.map #[] 0)).heap.size = w1.heap.size + 1 by simp] at hnew bb
  refine ⟨w1.heap.size + 1, w1.heap.size, rfl, by omega, hsz, hall, ⟨hnew, hm.same (bb.block _ (by simp)), paint_new (by omega), paint_new hsz⟩, ?_⟩
  exact (HD.out.mono (S2 := Col (Dk.paint c w.heap.size 3) 1) fun k hk e => (paint_old hk).trans e).below hall
theorem lnew_calls (h : DK w (Col c 1) g d) (ho : OkN N d) (base n : Int) (hb : -9223372036854775808 ≤ base ∧ base < 9223372036854775808) (hn : -9223372036854775808 ≤ n ∧ n < 9223372036854775808) (hl : liesE d base n = 0) : Calls Try.prog 27 #[.pointer (some ⟨g, 0, none⟩), .int .i64 base, .int .i64 n] w fun e w' => ∃ gl m c', e = .returned (.tuple #[.pointer (some ⟨gl, 0, none⟩), .int .i64 0]) ∧ Fr [] w c w' c' ∧ LO w' c' gl m g (newW base n) ∧ DK w' (Col c' 1) g d := by
  refine (lnew_at h ho base n hb hn hl).mono ?_
  rintro e w' ⟨gl, m, rfl, h1, h2, hb, hL, hD⟩
  exact ⟨gl, m, _, rfl, Fr.of_paint hb 3, hL, hD⟩
/-- The disk's sector of a log's. -/
def placeW (W : WS) (i : Int) : Int := W.base + i.tmod W.n
/-- What a log lies by. -/
structure Fit (W : WS) : Prop where
  b : 0 ≤ W.base ∧ W.base ≤ 1000
  n : 1 ≤ W.n ∧ W.n ≤ 64
  low : 0 ≤ W.low ∧ W.low ≤ 1000000000000
  first : 0 ≤ W.first ∧ W.first ≤ 1000000000000
  op : 0 ≤ W.op ∧ W.op ≤ 1000000000000
  ep : 0 ≤ W.ep ∧ W.ep < 4294967296
theorem tmod_lt {n : Int} (hn : 1 ≤ n ∧ n ≤ 64) (i : Int) (hi : 0 ≤ i) : 0 ≤ i.tmod n ∧ i.tmod n < n := ⟨Int.tmod_nonneg _ hi, Int.tmod_lt_of_pos _ (by omega)⟩
theorem place_calls (h : LO w c gl m g W) (F : Fit W) (i : Int) (hi : 0 ≤ i) : Calls Try.prog 57 #[.pointer (some ⟨gl, 0, none⟩), .int .i64 i] w fun e w' => e = .returned (.int .i64 (placeW W i)) ∧ Below w.heap.size w w' := by
  have HL := Aside0.mk h; have HF := Aside0.mk F
  have ht := tmod_lt F.n i hi
  have hb := F.b; have hn := F.n
  have hw1 : wrap64 (i.tmod W.n) = i.tmod W.n := by unfold wrap64; omega
  have hw2 : wrap64 (W.base + i.tmod W.n) = W.base + i.tmod W.n := by unfold wrap64; omega
  have hnz : (W.n = 0) = False := eq_false (by omega)
  clear h F hi ht hb hn
  unfold placeW
  go_enter Try.func57, Try.ntmps57
  go_upto_region 1 with (fail)
  have HL1 := Aside0.mk HL.out.drew
  have c1 := HL1.out.c1; have c2 := HL1.out.c2
  refine start_ (n := 12) (S := fun w' => w'.cell? ⟨gl, 1, none⟩ = some (.int .i64 W.base) ∧ w'.cell? ⟨gl, 2, none⟩ = some (.int .i64 W.n)) (ds := []) #[false, false, false, false, false, false, false, false, false, false, false, false] (by kernel_rfl) rfl rfl ⟨c1, c2⟩ (fun hHeld => ?_)
  refine rgp 0 5 ?_
  refine rgp 1 6 ?_
  refine rgp 2 7 ?_
  refine rgp 4 9 ?_
  refine rgp 5 10 ?_
  refine rgp 6 11 ?_
  refine rgp 7 12 ?_
  refine rgt 3 8 hHeld ?_
  refine rgt 8 13 hHeld ?_
  refine rgp 9 14 ?_
  refine rgp 10 15 ?_
  refine rgp 11 4 ?_
  refine done_ (by kernel_rfl) ?_
  clear hHeld c1 c2
  go_wp2
  go_ret
  exact ⟨by first | rfl | (simp [hw1, hw2]), (Below.refl _ _).drew⟩
attribute [local go_sem] max2_int min2_int max_two min_two
end
end Go.Proofs.Ytcelfhoomhmioaa.Wl
set_option maxRecDepth 8192
namespace Go.Proofs.Ytcelfhoomhmioaa.Wr
open Go.Proofs.Ytcelfhoomhmioaa.Rgn
open Go.Proofs.Ytcelfhoomhmioaa.Rp Go.Proofs.Ytcelfhoomhmioaa.X4
open Go Go.RowKit Go.ChangeMaps Go.Proofs.Ytcelfhoomhmioaa.Arr Go.Proofs.Ytcelfhoomhmioaa.Ow Go.Proofs.YtcelfhoomhmioaaW.PrintWords Go.Proofs.YtcelfhoomhmioaaW.PrintLast Go.Proofs.YtcelfhoomhmioaaW.PrintMore
set_option linter.unusedVariables false
set_option linter.unusedSimpArgs false
set_option maxHeartbeats 1000000 in
theorem small_yes (g : Nat) (l : List UInt8) (n m : Int) (S : Nat → Prop) (w : World) (hS : Top S w) (h : WK w S g l) (hl : l.length ≤ 1000000) (h1 : 0 ≤ n) (h2 : n ≤ m) : Calls Try.prog 67 #[.pointer (some ⟨g, 0, none⟩), .int .i64 n, .int .i64 m] w fun x w' => x = .returned (.tuple #[]) ∧ WK w' S g (l ++ [b8 n]) ∧ FS S w w' := by
  have HS := Aside0.mk hS; have HW := Aside0.mk h; have HL := Aside0.mk hl; clear hS h hl
  have t1 : decide (0 ≤ n) = true := decide_eq_true h1
  have t2 : decide (n ≤ m) = true := decide_eq_true h2
  have HE := Aside0.mk (b8_nat n)
  clear h1 h2
  go_enter Try.func67, Try.ntmps67
  go_upto_region 1 with (go_at_call 50; (with_reducible refine (must_yes _ _).mono ?_); rintro e w1 ⟨rfl, rfl⟩)
  go_wp2_with (go_at_call 79; rw [← HE.out]; (with_reducible refine (writeByte_calls g l (b8 n) S _ HS.out HW.out HL.out).mono ?_); rintro e w1 ⟨rfl, hk, hf⟩; have HK := Aside0.mk hk; have F := Aside0.mk hf; clear hk hf)
  go_end0
  exact ⟨rfl, HK.out, F.out⟩
theorem small_no (g : Nat) (n m : Int) (w : World) (h : ¬ (0 ≤ n ∧ n ≤ m)) : Calls Try.prog 67 #[.pointer (some ⟨g, 0, none⟩), .int .i64 n, .int .i64 m] w fun x w' => x = gaveUp 1 ∧ w' = w := by
  by_cases h1 : 0 ≤ n
  · have t1 : decide (0 ≤ n) = true := decide_eq_true h1
    have t2 : decide (n ≤ m) = false := decide_eq_false (fun e => h ⟨h1, e⟩)
    clear h1 h
    go_enter Try.func67, Try.ntmps67
    go_wp2_with (go_at_call 50; (with_reducible refine (must_no _ _).mono ?_); rintro e w1 ⟨rfl, rfl⟩)
    exact ⟨rfl, rfl, rfl⟩
  · have t1 : decide (0 ≤ n) = false := decide_eq_false h1
    clear h1 h
    go_enter Try.func67, Try.ntmps67
    go_wp2_with (go_at_call 50; (with_reducible refine (must_no _ _).mono ?_); rintro e w1 ⟨rfl, rfl⟩)
    exact ⟨rfl, rfl, rfl⟩
theorem flat_len {xs : List Int} {k : Nat} (h : k ≤ xs.length) : ((xs.take k).flatMap four).length = 4 * k := by
  induction k with
  | zero => rfl
  | succ k ih =>
    rw [List.take_succ_eq_append_getElem (by omega), List.flatMap_append, List.length_append, ih (by omega)]
    simp [four]
    omega
theorem num_succ {xs : List Int} {k : Nat} {n : Int} (h : xs[k]? = some n) : (xs.take (k + 1)).flatMap four = (xs.take k).flatMap four ++ four n := by
  rw [List.take_add_one, h, List.flatMap_append]
  simp
theorem num_all {xs : List Int} {k : Nat} {n : Int} (ha : ∀ x ∈ xs.take k, isNum x = true) (h : xs[k]? = some n) (hn : isNum n = true) : ∀ x ∈ xs.take (k + 1), isNum x = true := by
  rw [List.take_add_one, h]
  intro x hx
  rcases List.mem_append.1 hx with hx | hx
  · exact ha x hx
  · simp at hx; rw [hx]; exact hn
theorem num_none {xs : List Int} {k : Nat} {n : Int} (h : xs[k]? = some n) (hn : ¬ isNum n = true) : numP xs = none := by
  unfold numP
  rw [if_neg]
  intro ha
  exact hn (List.all_eq_true.1 ha n (List.mem_of_getElem? h))
theorem num_some {xs : List Int} (h : ∀ x ∈ xs, isNum x = true) : numP xs = some (xs.flatMap four) := by
  unfold numP
  rw [if_pos (List.all_eq_true.2 h)]
/-- What a writer's function does: its bytes are behind the others, or it gives up. -/
def After (S : Nat → Prop) (g : Nat) (w : World) (l : List UInt8) (o : Option (List UInt8)) (x : Ending) (w' : World) : Prop :=
  match o with
  | some bs => x = .returned (.tuple #[]) ∧ WK w' S g (l ++ bs) ∧ FS S w w'
  | none => x = gaveUp 1 ∧ FS S w w'
theorem small_calls (g : Nat) (l : List UInt8) (n m : Int) (S : Nat → Prop) (w : World) (hS : Top S w) (h : WK w S g l) (hl : l.length ≤ 1000000) : Calls Try.prog 67 #[.pointer (some ⟨g, 0, none⟩), .int .i64 n, .int .i64 m] w fun x w' => After S g w l (smallP n m) x w' := by
  unfold smallP
  by_cases h1 : 0 ≤ n ∧ n ≤ m
  · rw [if_pos h1]
    exact small_yes g l n m S w hS h hl h1.1 h1.2
  · rw [if_neg h1]
    exact (small_no g n m w h1).mono fun x w' hx => ⟨hx.1, by rw [hx.2]; exact FS.refl _ _⟩
abbrev TI : TypeId := 3
set_option maxHeartbeats 4000000 in
theorem num_calls (g : Nat) (l : List UInt8) (xs : List Int) (b c : Nat) (S : Nat → Prop) (w : World) (hS : Top S w) (h : WK w S g l) (hb : w.heap[b]? = some (.cells (xs.map (Value.int .i64)).toArray TI (0, 0))) (hSb : ¬ S b) (hl : l.length + 4 * xs.length ≤ 1000000) : Calls Try.prog 69 #[.pointer (some ⟨g, 0, none⟩), .slice (some ⟨b, 0, none⟩) xs.length c] w fun x w' => After S g w l (numP xs) x w' := by
  have HS := Aside0.mk hS; have HL := Aside0.mk hl; have HB := Aside0.mk hb; have HSB := Aside0.mk hSb
  have HW := Aside0.mk h
  clear hS hl hb hSb h
  go_enter Try.func69, Try.ntmps69
  go_upto_region 1 with (fail)
  go_loopw [9] (fun v wr => ∃ k : Nat, v = .int .i64 k ∧ Aside0 (k ≤ xs.length) ∧ Aside0 (∀ x ∈ xs.take k, isNum x = true) ∧ Aside0 (WK wr S g (l ++ (xs.take k).flatMap four)) ∧ Aside0 (FS S w wr)) (fun v _ => xs.length - (intOf v).toNat)
  case atStart => exact ⟨0, rfl, ⟨Nat.zero_le _⟩, ⟨fun x hx => by simp at hx⟩, ⟨by simpa using HW.out⟩, ⟨FS.refl _ _⟩⟩
  case round =>
    clear HW
    obtain ⟨k, rfl, K, HA, HW, F⟩ := hrel
    by_cases hlt : k < xs.length
    · have h1 : (k : Int) < (xs.length : Int) := by omega
      have hwk : wrap64 ((k : Int) + 1) = ((k + 1 : Nat) : Int) := by have := HL.out; unfold wrap64; omega
      obtain ⟨n, hn⟩ : ∃ n, xs[k]? = some n := ⟨_, List.getElem?_eq_getElem hlt⟩
      have HN := Aside0.mk hn; have HLT := Aside0.mk hlt
      have q0 : wr.cell? ⟨b, k, none⟩ = some (.int .i64 n) := (blk_cell (F.out.old HB.out HSB.out) k).trans (by simp [hn])
      clear hn hlt
      by_cases hnum : isNum n = true
      · have hnn := (isNum_iff n).1 hnum
        have t1 : decide (0 ≤ n) = true := decide_eq_true hnn.1
        have t2 : decide (n ≤ 2147483647) = true := decide_eq_true hnn.2
        have HNN := Aside0.mk hnn; have HNU := Aside0.mk hnum
        clear hnn hnum
        go_upto_region 4 with (go_at_call 50; (with_reducible refine (must_yes _ _).mono ?_); rintro e w1 ⟨rfl, rfl⟩)
        go_upto_region 5 with (fail)
        go_loopw [6] (fun v wr2 => ∃ (j : Nat) (s : Int), v = .int .i64 s ∧ Aside0 (s = 24 - 8 * (j : Int)) ∧ Aside0 (j ≤ 4) ∧ Aside0 (WK wr2 S g (l ++ (xs.take k).flatMap four ++ (four n).take j)) ∧ Aside0 (FS S w wr2)) (fun v _ => (intOf v + 8).toNat)
        case atStart => exact ⟨0, 24, rfl, ⟨rfl⟩, ⟨by omega⟩, ⟨by simpa using HW.out⟩, F⟩
        case round =>
          clear HW F
          obtain ⟨j, s, rfl, E, J, HW2, F2⟩ := hrel
          have HKL := Aside0.mk (show ((xs.take k).flatMap four).length = 4 * k from flat_len (by have := HLT.out; omega))
          rcases (show j = 0 ∨ j = 1 ∨ j = 2 ∨ j = 3 ∨ j = 4 by have := J.out; omega) with rfl | rfl | rfl | rfl | rfl
          · obtain rfl : s = 24 := by have := E.out; omega
            go_upto_region 7 with (fail)
            have HW0 := Aside0.mk HW2.out.drew; have F0 := Aside0.mk F2.out.drew
            refine start_ (n := 8) (S := fun w' => True) (ds := [7]) #[false, false, false, false, false, false, false, false] (by kernel_rfl) rfl rfl trivial (fun hHeld => ?_)
            refine rgp 0 24 ?_
            refine rgp 1 25 ?_
            refine rgp 2 26 ?_
            refine rgp 3 27 ?_
            refine rgp 4 28 ?_
            refine rgp 5 29 ?_
            refine rgp 6 30 ?_
            refine last_ (i := 7) (N := some 31) #[true, true, true, true, true, true, true, true] rfl rfl (by kernel_rfl) (by decide) (fun K hK => ?_)
            refine goes_ Try.func79 (by kernel_rfl) rfl #[.pointer (some ⟨g, 0, none⟩), .int .u8 ((n / 16777216) % 256)] (by rfl) rfl rfl (by (try simp only [List.map_toArray, List.map_cons, List.map_nil]); first | done | rfl) ?_
            rw [← b8_nat]
            refine (writeByte_calls g _ _ S _ (HS.out.next F0.out.size) HW0.out (by simp only [List.length_append, HKL.out, four, List.length_take, List.length_cons, List.length_nil]; have := HL.out; have := HLT.out; omega)).mono ?_
            rintro e v1_ ⟨rfl, hk, hf⟩
            refine ⟨_, rfl, ?_⟩
            have HW3 := Aside0.mk hk; have F3 := Aside0.mk (F0.out.trans hf)
            refine hK _ _ ?_
            clear hK K hk hf
            refine norm_ (a' := ?_) ?_ ?_
            rotate_left
            · show Act.put _ (some 31) _ = _
              simp only [Act.put, List.setIfInBounds_toArray, List.set_cons_zero, List.set_cons_succ, i64_w, i32_w]
              rfl
            refine done_ (by kernel_rfl) ?_
            simp only [Exit.inBlock, Exit.then]
            go_wp2
            go_roundw
            case rel => exact ⟨1, 16, rfl, ⟨by omega⟩, ⟨by omega⟩, ⟨by rw [List.append_assoc] at HW3; exact HW3.out⟩, F3⟩
            case measure => simp only [intOf]; omega
          · obtain rfl : s = 16 := by have := E.out; omega
            go_upto_region 7 with (fail)
            have HW0 := Aside0.mk HW2.out.drew; have F0 := Aside0.mk F2.out.drew
            refine start_ (n := 8) (S := fun w' => True) (ds := [7]) #[false, false, false, false, false, false, false, false] (by kernel_rfl) rfl rfl trivial (fun hHeld => ?_)
            refine rgp 0 24 ?_
            refine rgp 1 25 ?_
            refine rgp 2 26 ?_
            refine rgp 3 27 ?_
            refine rgp 4 28 ?_
            refine rgp 5 29 ?_
            refine rgp 6 30 ?_
            refine last_ (i := 7) (N := some 31) #[true, true, true, true, true, true, true, true] rfl rfl (by kernel_rfl) (by decide) (fun K hK => ?_)
            refine goes_ Try.func79 (by kernel_rfl) rfl #[.pointer (some ⟨g, 0, none⟩), .int .u8 ((n / 65536) % 256)] (by rfl) rfl rfl (by (try simp only [List.map_toArray, List.map_cons, List.map_nil]); first | done | rfl) ?_
            rw [← b8_nat]
            refine (writeByte_calls g _ _ S _ (HS.out.next F0.out.size) HW0.out (by simp only [List.length_append, HKL.out, four, List.length_take, List.length_cons, List.length_nil]; have := HL.out; have := HLT.out; omega)).mono ?_
            rintro e v1_ ⟨rfl, hk, hf⟩
            refine ⟨_, rfl, ?_⟩
            have HW3 := Aside0.mk hk; have F3 := Aside0.mk (F0.out.trans hf)
            refine hK _ _ ?_
            clear hK K hk hf
            refine norm_ (a' := ?_) ?_ ?_
            rotate_left
            · show Act.put _ (some 31) _ = _
              simp only [Act.put, List.setIfInBounds_toArray, List.set_cons_zero, List.set_cons_succ, i64_w, i32_w]
              rfl
            refine done_ (by kernel_rfl) ?_
            simp only [Exit.inBlock, Exit.then]
            go_wp2
            go_roundw
            case rel => exact ⟨2, 8, rfl, ⟨by omega⟩, ⟨by omega⟩, ⟨by rw [List.append_assoc] at HW3; exact HW3.out⟩, F3⟩
            case measure => simp only [intOf]; omega
          · obtain rfl : s = 8 := by have := E.out; omega
            go_upto_region 7 with (fail)
            have HW0 := Aside0.mk HW2.out.drew; have F0 := Aside0.mk F2.out.drew
            refine start_ (n := 8) (S := fun w' => True) (ds := [7]) #[false, false, false, false, false, false, false, false] (by kernel_rfl) rfl rfl trivial (fun hHeld => ?_)
            refine rgp 0 24 ?_
            refine rgp 1 25 ?_
            refine rgp 2 26 ?_
            refine rgp 3 27 ?_
            refine rgp 4 28 ?_
            refine rgp 5 29 ?_
            refine rgp 6 30 ?_
            refine last_ (i := 7) (N := some 31) #[true, true, true, true, true, true, true, true] rfl rfl (by kernel_rfl) (by decide) (fun K hK => ?_)
            refine goes_ Try.func79 (by kernel_rfl) rfl #[.pointer (some ⟨g, 0, none⟩), .int .u8 ((n / 256) % 256)] (by rfl) rfl rfl (by (try simp only [List.map_toArray, List.map_cons, List.map_nil]); first | done | rfl) ?_
            rw [← b8_nat]
            refine (writeByte_calls g _ _ S _ (HS.out.next F0.out.size) HW0.out (by simp only [List.length_append, HKL.out, four, List.length_take, List.length_cons, List.length_nil]; have := HL.out; have := HLT.out; omega)).mono ?_
            rintro e v1_ ⟨rfl, hk, hf⟩
            refine ⟨_, rfl, ?_⟩
            have HW3 := Aside0.mk hk; have F3 := Aside0.mk (F0.out.trans hf)
            refine hK _ _ ?_
            clear hK K hk hf
            refine norm_ (a' := ?_) ?_ ?_
            rotate_left
            · show Act.put _ (some 31) _ = _
              simp only [Act.put, List.setIfInBounds_toArray, List.set_cons_zero, List.set_cons_succ, i64_w, i32_w]
              rfl
            refine done_ (by kernel_rfl) ?_
            simp only [Exit.inBlock, Exit.then]
            go_wp2
            go_roundw
            case rel => exact ⟨3, 0, rfl, ⟨by omega⟩, ⟨by omega⟩, ⟨by rw [List.append_assoc] at HW3; exact HW3.out⟩, F3⟩
            case measure => simp only [intOf]; omega
          · obtain rfl : s = 0 := by have := E.out; omega
            go_upto_region 7 with (fail)
            have HW0 := Aside0.mk HW2.out.drew; have F0 := Aside0.mk F2.out.drew
            refine start_ (n := 8) (S := fun w' => True) (ds := [7]) #[false, false, false, false, false, false, false, false] (by kernel_rfl) rfl rfl trivial (fun hHeld => ?_)
            refine rgp 0 24 ?_
            refine rgp 1 25 ?_
            refine rgp 2 26 ?_
            refine rgp 3 27 ?_
            refine rgp 4 28 ?_
            refine rgp 5 29 ?_
            refine rgp 6 30 ?_
            refine last_ (i := 7) (N := some 31) #[true, true, true, true, true, true, true, true] rfl rfl (by kernel_rfl) (by decide) (fun K hK => ?_)
            refine goes_ Try.func79 (by kernel_rfl) rfl #[.pointer (some ⟨g, 0, none⟩), .int .u8 (n % 256)] (by rfl) rfl rfl (by (try simp only [List.map_toArray, List.map_cons, List.map_nil]); first | done | rfl) ?_
            rw [← b8_nat]
            refine (writeByte_calls g _ _ S _ (HS.out.next F0.out.size) HW0.out (by simp only [List.length_append, HKL.out, four, List.length_take, List.length_cons, List.length_nil]; have := HL.out; have := HLT.out; omega)).mono ?_
            rintro e v1_ ⟨rfl, hk, hf⟩
            refine ⟨_, rfl, ?_⟩
            have HW3 := Aside0.mk hk; have F3 := Aside0.mk (F0.out.trans hf)
            refine hK _ _ ?_
            clear hK K hk hf
            refine norm_ (a' := ?_) ?_ ?_
            rotate_left
            · show Act.put _ (some 31) _ = _
              simp only [Act.put, List.setIfInBounds_toArray, List.set_cons_zero, List.set_cons_succ, i64_w, i32_w]
              rfl
            refine done_ (by kernel_rfl) ?_
            simp only [Exit.inBlock, Exit.then]
            go_wp2
            go_roundw
            case rel => exact ⟨4, -8, rfl, ⟨by omega⟩, ⟨by omega⟩, ⟨by rw [List.append_assoc] at HW3; exact HW3.out⟩, F3⟩
            case measure => simp only [intOf]; omega
          · obtain rfl : s = -8 := by have := E.out; omega
            go_wp2
            (try simp only [hwk])
            refine ⟨⟨k + 1, rfl, ⟨HLT.out⟩, ⟨num_all HA.out HN.out HNU.out⟩, ⟨?_⟩, F2⟩, ?_⟩
            · rw [num_succ HN.out, ← List.append_assoc]
              have h4 := HW2.out
              rwa [show (four n).take 4 = four n from rfl] at h4
            · have := HLT.out
              show xs.length - (intOf (.int .i64 ((k + 1 : Nat) : Int))).toNat < xs.length - (intOf (.int .i64 (k : Int))).toNat
              simp only [intOf]; omega
      · have hnone : numP xs = none := num_none HN.out hnum
        have HNO := Aside0.mk hnone
        have hcase : ¬ 0 ≤ n ∨ (0 ≤ n ∧ ¬ n ≤ 2147483647) := by
          by_cases h0 : 0 ≤ n
          · right; exact ⟨h0, fun h2 => hnum ((isNum_iff n).2 ⟨h0, h2⟩)⟩
          · exact .inl h0
        clear hnone hnum
        rcases hcase with h0 | ⟨h0, h2⟩
        · have t1 : decide (0 ≤ n) = false := decide_eq_false h0
          clear h0
          go_wp2_with (go_at_call 50; (with_reducible refine (must_no _ _).mono ?_); rintro e w1 ⟨rfl, rfl⟩)
          refine ⟨rfl, ?_⟩
          show After S g w l (numP xs) (gaveUp 1) _
          rw [HNO.out]
          exact ⟨rfl, F.out⟩
        · have t1 : decide (0 ≤ n) = true := decide_eq_true h0
          have t2 : decide (n ≤ 2147483647) = false := decide_eq_false h2
          clear h0 h2
          go_wp2_with (go_at_call 50; (with_reducible refine (must_no _ _).mono ?_); rintro e w1 ⟨rfl, rfl⟩)
          refine ⟨rfl, ?_⟩
          show After S g w l (numP xs) (gaveUp 1) _
          rw [HNO.out]
          exact ⟨rfl, F.out⟩
    · obtain rfl : k = xs.length := by have := K.out; omega
      clear hlt
      rw [List.take_length] at HA HW
      go_wp2
      go_end0
      show After S g w l (numP xs) _ _
      rw [num_some HA.out]
      exact ⟨rfl, HW.out, F.out⟩
end Go.Proofs.Ytcelfhoomhmioaa.Wr
set_option maxRecDepth 8192
namespace Go.Proofs.Ytcelfhoomhmioaa.Wr
open Go.Proofs.Ytcelfhoomhmioaa.Rp Go.Proofs.Ytcelfhoomhmioaa.X4
open Go Go.RowKit Go.ChangeMaps Go.Proofs.Ytcelfhoomhmioaa.Arr Go.Proofs.Ytcelfhoomhmioaa.Ow Go.Proofs.YtcelfhoomhmioaaW.PrintWords Go.Proofs.YtcelfhoomhmioaaW.PrintLast Go.Proofs.YtcelfhoomhmioaaW.PrintMore
set_option linter.unusedVariables false
set_option linter.unusedSimpArgs false
def Less (S : Nat → Prop) (b : Nat) : Nat → Prop := fun k => S k ∧ k ≠ b
theorem top_less {S : Nat → Prop} {w : World} (h : Top S w) (o : Obj) : Top (Less S w.heap.size) (w.alloc o) := fun k hk => by
  have : w.heap.size + 1 ≤ k := by simpa using hk
  exact ⟨h k (by omega), by omega⟩
theorem wk_less {S : Nat → Prop} {w : World} {g : Nat} {l : List UInt8} (h : WK w S g l) (o : Obj) : WK (w.alloc o) (Less S w.heap.size) g l :=
  (h.mono fun k hk e => ⟨e, Nat.ne_of_lt hk⟩).below ((Below.refl _ _).alloc (Nat.le_refl _) o)
theorem WK.more {S : Nat → Prop} {w : World} {g b : Nat} {l : List UInt8} (h : WK w (Less S b) g l) : WK w S g l := h.mono fun k _ e => e.1
theorem FS.more {S : Nat → Prop} {w w' : World} {b : Nat} (h : FS (Less S b) w w') : FS S w w' := FS.mono h fun k _ e => e.1
theorem After.fresh {S : Nat → Prop} {g : Nat} {w w' : World} {l : List UInt8} {o : Option (List UInt8)} {x : Ending} {ob : Obj} (h : After (Less S w.heap.size) g (w.alloc ob) l o x w') : After S g w l o x w' := by
  have hf : ∀ w', FS (Less S w.heap.size) (w.alloc ob) w' → FS S w w' := fun w' h => ((FS.refl S w).alloc ob).trans (FS.more h)
  cases o with
  | none => exact ⟨h.1, hf _ h.2⟩
  | some bs => exact ⟨h.1, h.2.1.more, hf _ h.2.2⟩
theorem not_less (S : Nat → Prop) (b : Nat) : ¬ Less S b b := fun h => h.2 rfl
/-- num of a row that was made for the call. -/
theorem num_fresh (g : Nat) (l : List UInt8) (xs : List Int) (S : Nat → Prop) (w : World) (hS : Top S w) (h : WK w S g l) (hl : l.length + 4 * xs.length ≤ 1000000) : Calls Try.prog 69 #[.pointer (some ⟨g, 0, none⟩), .slice (some ⟨w.heap.size, 0, none⟩) xs.length xs.length] (w.alloc (.cells (xs.map (Value.int .i64)).toArray TI)) fun x w' => After S g w l (numP xs) x w' :=
  (num_calls g l xs w.heap.size xs.length (Less S w.heap.size) (w.alloc (.cells (xs.map (Value.int .i64)).toArray TI)) (top_less hS _) (wk_less h _) (heap_alloc_new w _) (not_less _ _) hl).mono fun x w' hx => hx.fresh
theorem num_fresh1 (g : Nat) (l : List UInt8) (n : Int) (S : Nat → Prop) (w : World) (hS : Top S w) (h : WK w S g l) (hl : l.length + 4 ≤ 1000000) : Calls Try.prog 69 #[.pointer (some ⟨g, 0, none⟩), .slice (some ⟨w.heap.size, 0, none⟩) 1 1] (w.alloc (.cells #[.int .i64 n] TI)) fun x w' => After S g w l (numP [n]) x w' := num_fresh g l [n] S w hS h hl
theorem num_fresh2 (g : Nat) (l : List UInt8) (n m : Int) (S : Nat → Prop) (w : World) (hS : Top S w) (h : WK w S g l) (hl : l.length + 8 ≤ 1000000) : Calls Try.prog 69 #[.pointer (some ⟨g, 0, none⟩), .slice (some ⟨w.heap.size, 0, none⟩) 2 2] (w.alloc (.cells #[.int .i64 n, .int .i64 m] TI)) fun x w' => After S g w l (numP [n, m]) x w' := num_fresh g l [n, m] S w hS h hl
set_option maxHeartbeats 1000000 in
theorem txn_calls (g : Nat) (l : List UInt8) (n : Int) (S : Nat → Prop) (w : World) (hS : Top S w) (h : WK w S g l) (hl : l.length + 4 ≤ 1000000) : Calls Try.prog 68 #[.pointer (some ⟨g, 0, none⟩), .int .i64 n] w fun x w' => After S g w l (txnP n) x w' := by
  have HS := Aside0.mk hS; have HW := Aside0.mk h; have HL := Aside0.mk hl; have F := Aside0.mk (FS.refl S w); clear hS h hl
  by_cases h1 : 1 ≤ n
  · have t1 : decide (1 ≤ n) = true := decide_eq_true h1
    have E := Aside0.mk (show txnP n = numP [n] by unfold txnP; rw [if_pos h1])
    clear h1
    cases hp : numP [n] with
    | none =>
      have HP := Aside0.mk hp; clear hp
      go_enter Try.func68, Try.ntmps68
      go_wp2_with (first | (go_at_call 50; (with_reducible refine (must_yes _ _).mono ?_); rintro e w1 ⟨rfl, hw⟩; replace hw := hw.symm; subst hw) | (go_at_call 69; refine (num_fresh1 g l n S _ HS.out HW.out HL.out).mono ?_; rintro e w1 hx; rw [HP.out] at hx; obtain ⟨rfl, hf⟩ := hx; have F_n := Aside0.mk (F.out.trans hf); clear F; have F := F_n; clear F_n; clear hf))
      refine ⟨rfl, ?_⟩
      show After S g w l (txnP n) (gaveUp 1) _
      rw [E.out, HP.out]
      exact ⟨rfl, F.out⟩
    | some bs =>
      have HP := Aside0.mk hp; clear hp
      go_enter Try.func68, Try.ntmps68
      go_wp2_with (first | (go_at_call 50; (with_reducible refine (must_yes _ _).mono ?_); rintro e w1 ⟨rfl, hw⟩; replace hw := hw.symm; subst hw) | (go_at_call 69; refine (num_fresh1 g l n S _ HS.out HW.out HL.out).mono ?_; rintro e w1 hx; rw [HP.out] at hx; obtain ⟨rfl, hk, hf⟩ := hx; have HW_n := Aside0.mk (hk); have F_n := Aside0.mk (F.out.trans hf); clear HW F; have HW := HW_n; have F := F_n; clear HW_n F_n; clear hk hf))
      go_end0
      show After S g w l (txnP n) _ _
      rw [E.out, HP.out]
      exact ⟨rfl, HW.out, F.out⟩
  · have t1 : decide (1 ≤ n) = false := decide_eq_false h1
    have E := Aside0.mk (show txnP n = none by unfold txnP; rw [if_neg h1])
    clear h1
    go_enter Try.func68, Try.ntmps68
    go_wp2_with (go_at_call 50; (with_reducible refine (must_no _ _).mono ?_); rintro e w1 ⟨rfl, hw⟩; replace hw := hw.symm; subst hw)
    refine ⟨rfl, ?_⟩
    show After S g w l (txnP n) (gaveUp 1) _
    rw [E.out]
    exact ⟨rfl, FS.refl _ _⟩
/-- A record in a block of its own. -/
def RB (w : World) (b : Nat) (r : S39) (A9 : Option Addr) (c9 : Nat) (A10 : Option Addr) (c10 : Nat) : Prop :=
  w.heap[b]? = some (.cells #[.int .i64 r.f0, .int .i64 r.f1, .int .i64 r.f2, .int .i64 r.f3, .int .i64 r.f4, .int .i64 r.f5, .int .i64 r.f6, .string r.f7, .string r.f8, .slice A9 r.f9.length c9, .slice A10 r.f10.length c10] 39 (0, 0))
set_option maxHeartbeats 2000000 in
theorem place_calls (g : Nat) (l : List UInt8) (b : Nat) (r : S39) (A9 : Option Addr) (c9 : Nat) (A10 : Option Addr) (c10 : Nat) (S : Nat → Prop) (w : World) (hS : Top S w) (h : WK w S g l) (hb : RB w b r A9 c9 A10 c10) (hSb : ¬ S b) (hl : l.length + 4 ≤ 1000000) (hz : r.f8.size ≤ 1000000) : Calls Try.prog 70 #[.pointer (some ⟨g, 0, none⟩), .pointer (some ⟨b, 0, none⟩)] w fun x w' => After S g w l (placeP r.f2 r.f3 r.f8.size) x w' := by
  have HS := Aside0.mk hS; have HW := Aside0.mk h; have HL := Aside0.mk hl; have F := Aside0.mk (FS.refl S w); have HB := Aside0.mk hb; have HSB := Aside0.mk hSb
  clear hS h hl hb hSb
  have q8 : w.cell? ⟨b, 8, none⟩ = some (.string r.f8) := blk_cell HB.out 8
  have q2 : w.cell? ⟨b, 2, none⟩ = some (.int .i64 r.f2) := blk_cell HB.out 2
  by_cases h1 : (1 : Int) ≤ (r.f8.size : Int)
  · have t1 : decide ((1 : Int) ≤ (r.f8.size : Int)) = true := decide_eq_true h1
    have t1' : decide (1 ≤ r.f8.size) = true := decide_eq_true (by omega)
    have E := Aside0.mk (show placeP r.f2 r.f3 r.f8.size = cat (smallP r.f2 7) (cat (smallP r.f3 (220 - min (r.f8.size : Int) 220)) (smallP r.f8.size 16)) by unfold placeP; rw [if_pos h1])
    clear h1
    go_enter Try.func70, Try.ntmps70
    cases hp : smallP r.f2 7 with
    | none =>
      have HP := Aside0.mk hp; clear hp
      go_wp2_with (first | (go_at_call 50; (with_reducible refine (must_yes _ _).mono ?_); rintro e w1 ⟨rfl, hw⟩; replace hw := hw.symm; subst hw) | (go_at_call 67; refine (small_calls g l r.f2 7 S _ HS.out HW.out (by have := HL.out; omega)).mono ?_; rintro e w1 hx; rw [HP.out] at hx; obtain ⟨rfl, hf⟩ := hx; have F_n := Aside0.mk (F.out.trans hf); clear F; have F := F_n; clear F_n; clear hf))
      refine ⟨rfl, ?_⟩
      show After S g w l (placeP r.f2 r.f3 r.f8.size) (gaveUp 1) _
      rw [E.out, HP.out]
      exact ⟨rfl, F.out⟩
    | some b1 =>
    have HP := Aside0.mk hp; have HB1 := Aside0.mk (small_len hp); clear hp
    go_upto_region 3 with (first | (go_at_call 50; (with_reducible refine (must_yes _ _).mono ?_); rintro e w1 ⟨rfl, hw⟩; replace hw := hw.symm; subst hw) | (go_at_call 67; refine (small_calls g l r.f2 7 S _ HS.out HW.out (by have := HL.out; omega)).mono ?_; rintro e w2 hx; rw [HP.out] at hx; obtain ⟨rfl, hk, hf⟩ := hx; have HW_n := Aside0.mk (hk); have F_n := Aside0.mk (F.out.trans hf); clear HW F; have HW := HW_n; have F := F_n; clear HW_n F_n; clear hk hf))
    have q3 : w2.cell? ⟨b, 3, none⟩ = some (.int .i64 r.f3) := blk_cell (F.out.old HB.out HSB.out) 3
    have hw : wrap64 (220 - min (r.f8.size : Int) 220) = 220 - min (r.f8.size : Int) 220 := by unfold wrap64; omega
    cases hp2 : smallP r.f3 (220 - min (r.f8.size : Int) 220) with
    | none =>
      have HP2 := Aside0.mk hp2; clear hp2
      go_wp2_with (go_at_call 67; refine (small_calls g (l ++ b1) r.f3 (220 - min (r.f8.size : Int) 220) S _ (HS.out.next F.out.size) HW.out (by rw [List.length_append, HB1.out]; have := HL.out; omega)).mono ?_; rintro e w1 hx; rw [HP2.out] at hx; obtain ⟨rfl, hf⟩ := hx; have F_n := Aside0.mk (F.out.trans hf); clear F; have F := F_n; clear F_n; clear hf)
      refine ⟨rfl, ?_⟩
      show After S g w l (placeP r.f2 r.f3 r.f8.size) (gaveUp 1) _
      rw [E.out, HP.out, HP2.out]
      exact ⟨rfl, F.out⟩
    | some b2 =>
    have HP2 := Aside0.mk hp2; have HB2 := Aside0.mk (small_len hp2); clear hp2
    go_upto_region 4 with (go_at_call 67; refine (small_calls g (l ++ b1) r.f3 (220 - min (r.f8.size : Int) 220) S _ (HS.out.next F.out.size) HW.out (by rw [List.length_append, HB1.out]; have := HL.out; omega)).mono ?_; rintro e w3 hx; rw [HP2.out] at hx; obtain ⟨rfl, hk, hf⟩ := hx; have HW_n := Aside0.mk (hk); have F_n := Aside0.mk (F.out.trans hf); clear HW F; have HW := HW_n; have F := F_n; clear HW_n F_n; clear hk hf)
    cases hp3 : smallP r.f8.size 16 with
    | none =>
      have HP3 := Aside0.mk hp3; clear hp3
      go_wp2_with (go_at_call 67; refine (small_calls g (l ++ b1 ++ b2) r.f8.size 16 S _ (HS.out.next F.out.size) HW.out (by rw [List.length_append, List.length_append, HB1.out, HB2.out]; have := HL.out; omega)).mono ?_; rintro e w1 hx; rw [HP3.out] at hx; obtain ⟨rfl, hf⟩ := hx; have F_n := Aside0.mk (F.out.trans hf); clear F; have F := F_n; clear F_n; clear hf)
      refine ⟨rfl, ?_⟩
      show After S g w l (placeP r.f2 r.f3 r.f8.size) (gaveUp 1) _
      rw [E.out, HP.out, HP2.out, HP3.out]
      exact ⟨rfl, F.out⟩
    | some b3 =>
    have HP3 := Aside0.mk hp3; clear hp3
    go_wp2_with (go_at_call 67; refine (small_calls g (l ++ b1 ++ b2) r.f8.size 16 S _ (HS.out.next F.out.size) HW.out (by rw [List.length_append, List.length_append, HB1.out, HB2.out]; have := HL.out; omega)).mono ?_; rintro e w4 hx; rw [HP3.out] at hx; obtain ⟨rfl, hk, hf⟩ := hx; have HW_n := Aside0.mk (hk); have F_n := Aside0.mk (F.out.trans hf); clear HW F; have HW := HW_n; have F := F_n; clear HW_n F_n; clear hk hf)
    go_end0
    show After S g w l (placeP r.f2 r.f3 r.f8.size) _ _
    rw [E.out, HP.out, HP2.out, HP3.out]
    exact ⟨rfl, by simpa [List.append_assoc] using HW.out, F.out⟩
  · have t1 : decide ((1 : Int) ≤ (r.f8.size : Int)) = false := decide_eq_false h1
    have t1' : decide (1 ≤ r.f8.size) = false := decide_eq_false (by omega)
    have E := Aside0.mk (show placeP r.f2 r.f3 r.f8.size = none by unfold placeP; rw [if_neg h1])
    clear h1
    go_enter Try.func70, Try.ntmps70
    go_wp2_with (go_at_call 50; (with_reducible refine (must_no _ _).mono ?_); rintro e w1 ⟨rfl, hw⟩; replace hw := hw.symm; subst hw)
    refine ⟨rfl, ?_⟩
    show After S g w l (placeP r.f2 r.f3 r.f8.size) (gaveUp 1) _
    rw [E.out]
    exact ⟨rfl, FS.refl _ _⟩
end Go.Proofs.Ytcelfhoomhmioaa.Wr
set_option maxRecDepth 8192
namespace Go.Proofs.Ytcelfhoomhmioaa.Wr
open Go.Proofs.Ytcelfhoomhmioaa.Rp Go.Proofs.Ytcelfhoomhmioaa.X4
open Go Go.RowKit Go.ChangeMaps Go.Proofs.Ytcelfhoomhmioaa.Arr Go.Proofs.Ytcelfhoomhmioaa.Ow Go.Proofs.YtcelfhoomhmioaaW.PrintWords Go.Proofs.YtcelfhoomhmioaaW.PrintLast Go.Proofs.YtcelfhoomhmioaaW.PrintMore
set_option linter.unusedVariables false
set_option linter.unusedSimpArgs false
set_option maxHeartbeats 4000000 in
theorem tables_calls (g : Nat) (l : List UInt8) (b : Nat) (r : S39) (A9 : Option Addr) (c9 : Nat) (A10 : Option Addr) (c10 : Nat) (S : Nat → Prop) (w : World) (hS : Top S w) (h : WK w S g l) (hb : RB w b r A9 c9 A10 c10) (hSb : ¬ S b) (h9 : ∀ w', FS S w w' → Kd.C k134 w' A9 r.f9.length r.f9) (h10 : ∀ w', FS S w w' → Kd.C k70 w' A10 r.f10.length r.f10) (hl : l.length ≤ 900000) : Calls Try.prog 72 #[.pointer (some ⟨g, 0, none⟩), .pointer (some ⟨b, 0, none⟩)] w fun x w' => After S g w l (tablesP r) x w' := by
  have HS := Aside0.mk hS; have HW := Aside0.mk h; have HL := Aside0.mk hl; have F := Aside0.mk (FS.refl S w); have HB := Aside0.mk hb; have HSB := Aside0.mk hSb; have H9 := Aside0.mk h9; have H10 := Aside0.mk h10
  clear hS h hl hb hSb h9 h10
  have q6 : w.cell? ⟨b, 6, none⟩ = some (.int .i64 r.f6) := blk_cell HB.out 6
  cases hp1 : numP [r.f6] with
  | none =>
    have HP1 := Aside0.mk hp1; clear hp1
    go_enter Try.func72, Try.ntmps72
    go_wp2_with (go_at_call 69; refine (num_fresh1 g l r.f6 S _ HS.out HW.out (by have := HL.out; omega)).mono ?_; rintro e w1 hx; rw [HP1.out] at hx; obtain ⟨rfl, hf⟩ := hx; have F_n := Aside0.mk (F.out.trans hf); clear F; have F := F_n; clear F_n; clear hf)
    refine ⟨rfl, ?_⟩; show After S g w l (tablesP r) (gaveUp 1) _; rw [show tablesP r = none by unfold tablesP; rw [HP1.out]; rfl]; exact ⟨rfl, F.out⟩
  | some b1 =>
    have HP1 := Aside0.mk hp1; have HB1 := Aside0.mk (show b1.length = 4 from num_len hp1); clear hp1
    go_enter Try.func72, Try.ntmps72
    go_upto_region 1 with (go_at_call 69; refine (num_fresh1 g l r.f6 S _ HS.out HW.out (by have := HL.out; omega)).mono ?_; rintro e w1 hx; rw [HP1.out] at hx; obtain ⟨rfl, hk, hf⟩ := hx; have HW_n := Aside0.mk (hk); have F_n := Aside0.mk (F.out.trans hf); clear HW F; have HW := HW_n; have F := F_n; clear HW_n F_n; clear hk hf)
    have q9 : w1.cell? ⟨b, 9, none⟩ = some (.slice A9 r.f9.length c9) := blk_cell (F.out.old HB.out HSB.out) 9
    cases hp2 : smallP r.f9.length 4 with
    | none =>
      have HP2 := Aside0.mk hp2; clear hp2
      go_wp2_with (go_at_call 67; refine (small_calls g (l ++ b1) r.f9.length 4 S _ (HS.out.next F.out.size) HW.out (by rw [List.length_append, HB1.out]; have := HL.out; omega)).mono ?_; rintro e w1 hx; rw [HP2.out] at hx; obtain ⟨rfl, hf⟩ := hx; have F_n := Aside0.mk (F.out.trans hf); clear F; have F := F_n; clear F_n; clear hf)
      refine ⟨rfl, ?_⟩; show After S g w l (tablesP r) (gaveUp 1) _; rw [show tablesP r = none by unfold tablesP; rw [HP1.out, HP2.out]; rfl]; exact ⟨rfl, F.out⟩
    | some b2 =>
    have HP2 := Aside0.mk hp2; have HB2 := Aside0.mk (small_len hp2); have HC4 := Aside0.mk (show r.f9.length ≤ 4 by have := small_le hp2; omega); clear hp2
    go_upto_region 2 with (go_at_call 67; refine (small_calls g (l ++ b1) r.f9.length 4 S _ (HS.out.next F.out.size) HW.out (by rw [List.length_append, HB1.out]; have := HL.out; omega)).mono ?_; rintro e w2 hx; rw [HP2.out] at hx; obtain ⟨rfl, hk, hf⟩ := hx; have HW_n := Aside0.mk (hk); have F_n := Aside0.mk (F.out.trans hf); clear HW F; have HW := HW_n; have F := F_n; clear HW_n F_n; clear hk hf)
    have q9b : w2.cell? ⟨b, 9, none⟩ = some (.slice A9 r.f9.length c9) := blk_cell (F.out.old HB.out HSB.out) 9
    go_upto_region 3 with (fail)
    go_loopw [27] (fun v wr => ∃ (k : Nat) (L : List UInt8), v = .int .i64 k ∧ Aside0 (k ≤ r.f9.length) ∧ Aside0 (∃ bs, joinP ((r.f9.take k).map rowT) = some bs ∧ L = (l ++ b1 ++ b2) ++ bs) ∧ Aside0 (L.length ≤ l.length + 5 + 12 * k) ∧ Aside0 (WK wr S g L) ∧ Aside0 (FS S w wr)) (fun v _ => r.f9.length - (intOf v).toNat)
    case atStart => exact ⟨0, _, rfl, ⟨Nat.zero_le _⟩, ⟨[], rfl, rfl⟩, ⟨by rw [List.append_nil, List.length_append, List.length_append, HB1.out, HB2.out]; omega⟩, ⟨by simpa using HW.out⟩, F⟩
    case round =>
      clear HW F q9 q9b
      obtain ⟨k, L, rfl, K, HJ, HLN, HW, F⟩ := hrel
      by_cases hlt : k < r.f9.length
      · have h1 : (k : Int) < (r.f9.length : Int) := by omega
        have h2 : (0 : Int) ≤ (k : Int) := by omega
        have hwk : wrap64 ((k : Int) + 1) = ((k + 1 : Nat) : Int) := by have := HC4.out; unfold wrap64; omega
        obtain ⟨ad, e_, x0, x1, x2⟩ := at_T134 (H9.out wr F.out) k h2 h1
        have HX := Aside0.mk (show r.f9[k]? = some (rd_T134 r.f9 k) by unfold rd_T134; rw [Int.toNat_natCast, List.getD_eq_getElem?_getD, List.getElem?_eq_getElem hlt]; rfl)
        simp only [Int.toNat_natCast] at x0 x1 x2
        subst e_
        generalize rd_T134 r.f9 k = x at *
        have HLT := Aside0.mk hlt
        have HS1 := Aside0.mk (top_less (HS.out.next F.out.size) (.cells #[.int .i64 x.f0, .int .i64 x.f1, .int .i64 x.f2] 134))
        have HW1 := Aside0.mk (wk_less HW.out (.cells #[.int .i64 x.f0, .int .i64 x.f1, .int .i64 x.f2] 134))
        have HB1 := Aside0.mk (heap_alloc_new wr (.cells #[.int .i64 x.f0, .int .i64 x.f1, .int .i64 x.f2] 134))
        have F0 := Aside0.mk (F.out.alloc (.cells #[.int .i64 x.f0, .int .i64 x.f1, .int .i64 x.f2] 134))
        have F1 := Aside0.mk (FS.refl (Less S wr.heap.size) (wr.alloc (.cells #[.int .i64 x.f0, .int .i64 x.f1, .int .i64 x.f2] 134)))
        clear hlt
        cases hp3 : txnP x.f0 with
        | none =>
          as_aux_lemma =>
          have HP3 := Aside0.mk hp3; clear hp3
          go_wp2_with (go_at_call 68; refine (txn_calls g L x.f0 (Less S wr.heap.size) _ HS1.out HW1.out (by have := HLN.out; have := HLT.out; have := HC4.out; have := HL.out; omega)).mono ?_; rintro e w1 hx; rw [HP3.out] at hx; obtain ⟨rfl, hf⟩ := hx; have F1_n := Aside0.mk (F1.out.trans hf); clear F1; have F1 := F1_n; clear F1_n; clear hf)
          refine ⟨rfl, ?_⟩
          show After S g w l (tablesP r) (gaveUp 1) _
          rw [show tablesP r = none by unfold tablesP; rw [HP1.out, HP2.out, join_none HX.out (by unfold rowT; rw [HP3.out]; rfl)]; rfl]
          exact ⟨rfl, F0.out.trans (FS.more F1.out)⟩
        | some b3 =>
        have HP3 := Aside0.mk hp3; have HB3 := Aside0.mk (txn_len hp3); clear hp3
        go_upto_region 6 with (go_at_call 68; refine (txn_calls g L x.f0 (Less S wr.heap.size) _ HS1.out HW1.out (by have := HLN.out; have := HLT.out; have := HC4.out; have := HL.out; omega)).mono ?_; rintro e w4 hx; rw [HP3.out] at hx; obtain ⟨rfl, hk, hf⟩ := hx; have HW1_n := Aside0.mk (hk); have F1_n := Aside0.mk (F1.out.trans hf); clear HW1 F1; have HW1 := HW1_n; have F1 := F1_n; clear HW1_n F1_n; clear hk hf)
        have y1 : w4.cell? ⟨wr.heap.size, 1, none⟩ = some (.int .i64 x.f1) := blk_cell (F1.out.old HB1.out (not_less _ _)) 1
        have y2 : w4.cell? ⟨wr.heap.size, 2, none⟩ = some (.int .i64 x.f2) := blk_cell (F1.out.old HB1.out (not_less _ _)) 2
        cases hp4 : numP [x.f1, x.f2] with
        | none =>
          as_aux_lemma =>
          have HP4 := Aside0.mk hp4; clear hp4
          go_wp2_with (go_at_call 69; refine (num_fresh2 g (L ++ b3) x.f1 x.f2 (Less S wr.heap.size) _ (HS1.out.next F1.out.size) HW1.out (by rw [List.length_append, HB3.out]; have := HLN.out; have := HLT.out; have := HC4.out; have := HL.out; omega)).mono ?_; rintro e w1 hx; rw [HP4.out] at hx; obtain ⟨rfl, hf⟩ := hx; have F1_n := Aside0.mk (F1.out.trans hf); clear F1; have F1 := F1_n; clear F1_n; clear hf)
          refine ⟨rfl, ?_⟩
          show After S g w l (tablesP r) (gaveUp 1) _
          rw [show tablesP r = none by unfold tablesP; rw [HP1.out, HP2.out, join_none HX.out (by unfold rowT; rw [HP3.out, HP4.out]; rfl)]; rfl]
          exact ⟨rfl, F0.out.trans (FS.more F1.out)⟩
        | some b4 =>
        as_aux_lemma =>
        have HP4 := Aside0.mk hp4; have HB4 := Aside0.mk (num_len hp4); clear hp4
        go_wp2_with (go_at_call 69; refine (num_fresh2 g (L ++ b3) x.f1 x.f2 (Less S wr.heap.size) _ (HS1.out.next F1.out.size) HW1.out (by rw [List.length_append, HB3.out]; have := HLN.out; have := HLT.out; have := HC4.out; have := HL.out; omega)).mono ?_; rintro e w5 hx; rw [HP4.out] at hx; obtain ⟨rfl, hk, hf⟩ := hx; have HW1_n := Aside0.mk (hk); have F1_n := Aside0.mk (F1.out.trans hf); clear HW1 F1; have HW1 := HW1_n; have F1 := F1_n; clear HW1_n F1_n; clear hk hf)
        have FF := Aside0.mk (F0.out.trans (FS.more F1.out)); have WW := Aside0.mk (HW1.out.more); clear F0 F1 HW1
        (try simp only [hwk])
        obtain ⟨bs, hj, hL⟩ := HJ.out
        refine ⟨⟨k + 1, L ++ b3 ++ b4, rfl, ⟨HLT.out⟩, ⟨bs ++ (b3 ++ b4), join_succ HX.out hj (by unfold rowT; rw [HP3.out, HP4.out]; rfl), by rw [hL]; simp only [List.append_assoc]⟩, ⟨?_⟩, WW, FF⟩, ?_⟩
        · have := HLN.out; have h5 := HB4.out; rw [List.length_append, List.length_append, HB3.out, h5]; simp only [List.length_cons, List.length_nil]; omega
        · have := HLT.out
          show r.f9.length - (intOf (.int .i64 ((k + 1 : Nat) : Int))).toNat < r.f9.length - (intOf (.int .i64 (k : Int))).toNat
          simp only [intOf]; omega
      · obtain rfl : k = r.f9.length := by have := K.out; omega
        clear hlt
        obtain ⟨bs, hj, hL⟩ := HJ.out
        rw [List.take_length] at hj
        have HJ1 := Aside0.mk hj; have HL1 := Aside0.mk hL; clear hj hL HJ
        obtain ⟨L2, HL2⟩ : ∃ L2, Aside0 (L2 = L) := ⟨_, ⟨rfl⟩⟩
        obtain rfl := HL2.out
        clear HL2
        have q10 : wr.cell? ⟨b, 10, none⟩ = some (.slice A10 r.f10.length c10) := blk_cell (F.out.old HB.out HSB.out) 10
        go_upto_region 8 with (fail)
        cases hp5 : smallP r.f10.length 8 with
        | none =>
          as_aux_lemma =>
          have HP5 := Aside0.mk hp5; clear hp5
          go_wp2_with (go_at_call 67; refine (small_calls g L2 r.f10.length 8 S _ (HS.out.next F.out.size) HW.out (by have := HLN.out; have := HC4.out; have := HL.out; omega)).mono ?_; rintro e w1 hx; rw [HP5.out] at hx; obtain ⟨rfl, hf⟩ := hx; have F_n := Aside0.mk (F.out.trans hf); clear F; have F := F_n; clear F_n; clear hf)
          refine ⟨rfl, ?_⟩; show After S g w l (tablesP r) (gaveUp 1) _; rw [show tablesP r = none by unfold tablesP; rw [HP1.out, HP2.out, HJ1.out, HP5.out]; rfl]; exact ⟨rfl, F.out⟩
        | some b5 =>
        have HP5 := Aside0.mk hp5; have HB5 := Aside0.mk (small_len hp5); have HC8 := Aside0.mk (show r.f10.length ≤ 8 by have := small_le hp5; omega); clear hp5
        go_upto_region 9 with (go_at_call 67; refine (small_calls g L2 r.f10.length 8 S _ (HS.out.next F.out.size) HW.out (by have := HLN.out; have := HC4.out; have := HL.out; omega)).mono ?_; rintro e w3 hx; rw [HP5.out] at hx; obtain ⟨rfl, hk, hf⟩ := hx; have HW_n := Aside0.mk (hk); have F_n := Aside0.mk (F.out.trans hf); clear HW F; have HW := HW_n; have F := F_n; clear HW_n F_n; clear hk hf)
        have q10b : w3.cell? ⟨b, 10, none⟩ = some (.slice A10 r.f10.length c10) := blk_cell (F.out.old HB.out HSB.out) 10
        have HLN0 := HLN; clear HLN
        go_upto_region 10 with (fail)
        go_loopw [55] (fun v wr => ∃ (k : Nat) (L : List UInt8), v = .int .i64 k ∧ Aside0 (k ≤ r.f10.length) ∧ Aside0 (∃ bs, joinP ((r.f10.take k).map rowQ) = some bs ∧ L = (L2 ++ b5) ++ bs) ∧ Aside0 (L.length ≤ l.length + 54 + 5 * k) ∧ Aside0 (WK wr S g L) ∧ Aside0 (FS S w wr)) (fun v _ => r.f10.length - (intOf v).toNat)
        case atStart => exact ⟨0, _, rfl, ⟨Nat.zero_le _⟩, ⟨[], rfl, rfl⟩, ⟨by rw [List.append_nil, List.length_append, HB5.out]; have := HLN0.out; have := HC4.out; omega⟩, ⟨by simpa using HW.out⟩, F⟩
        case round =>
          clear HW F q10 q10b
          obtain ⟨k, L, rfl, K, HJ, HLN, HW, F⟩ := hrel
          by_cases hlt : k < r.f10.length
          · have h1 : (k : Int) < (r.f10.length : Int) := by omega
            have h2 : (0 : Int) ≤ (k : Int) := by omega
            have hwk : wrap64 ((k : Int) + 1) = ((k + 1 : Nat) : Int) := by have := HC8.out; unfold wrap64; omega
            obtain ⟨ad, e_, x0, x1⟩ := at_T70 (H10.out wr F.out) k h2 h1
            have HX := Aside0.mk (show r.f10[k]? = some (rd_T70 r.f10 k) by unfold rd_T70; rw [Int.toNat_natCast, List.getD_eq_getElem?_getD, List.getElem?_eq_getElem hlt]; rfl)
            simp only [Int.toNat_natCast] at x0 x1
            subst e_
            generalize rd_T70 r.f10 k = x at *
            have HLT := Aside0.mk hlt
            have HS1 := Aside0.mk (top_less (HS.out.next F.out.size) (.cells #[.int .i64 x.f0, .int .i64 x.f1] 70))
            have HW1 := Aside0.mk (wk_less HW.out (.cells #[.int .i64 x.f0, .int .i64 x.f1] 70))
            have HB1 := Aside0.mk (heap_alloc_new wr (.cells #[.int .i64 x.f0, .int .i64 x.f1] 70))
            have F0 := Aside0.mk (F.out.alloc (.cells #[.int .i64 x.f0, .int .i64 x.f1] 70))
            have F1 := Aside0.mk (FS.refl (Less S wr.heap.size) (wr.alloc (.cells #[.int .i64 x.f0, .int .i64 x.f1] 70)))
            clear hlt
            cases hp3 : smallP x.f0 7 with
            | none =>
              as_aux_lemma =>
              have HP3 := Aside0.mk hp3; clear hp3
              go_wp2_with (go_at_call 67; refine (small_calls g L x.f0 7 (Less S wr.heap.size) _ HS1.out HW1.out (by have := HLN.out; have := HLT.out; have := HC8.out; have := HL.out; omega)).mono ?_; rintro e w1 hx; rw [HP3.out] at hx; obtain ⟨rfl, hf⟩ := hx; have F1_n := Aside0.mk (F1.out.trans hf); clear F1; have F1 := F1_n; clear F1_n; clear hf)
              refine ⟨rfl, ?_⟩
              show After S g w l (tablesP r) (gaveUp 1) _
              rw [show tablesP r = none by unfold tablesP; rw [HP1.out, HP2.out, HJ1.out, HP5.out, join_none HX.out (by unfold rowQ; rw [HP3.out]; rfl)]; rfl]
              exact ⟨rfl, F0.out.trans (FS.more F1.out)⟩
            | some b3 =>
            have HP3 := Aside0.mk hp3; have HB3 := Aside0.mk (small_len hp3); clear hp3
            go_upto_region 13 with (go_at_call 67; refine (small_calls g L x.f0 7 (Less S wr.heap.size) _ HS1.out HW1.out (by have := HLN.out; have := HLT.out; have := HC8.out; have := HL.out; omega)).mono ?_; rintro e w4 hx; rw [HP3.out] at hx; obtain ⟨rfl, hk, hf⟩ := hx; have HW1_n := Aside0.mk (hk); have F1_n := Aside0.mk (F1.out.trans hf); clear HW1 F1; have HW1 := HW1_n; have F1 := F1_n; clear HW1_n F1_n; clear hk hf)
            have y1 : w4.cell? ⟨wr.heap.size, 1, none⟩ = some (.int .i64 x.f1) := blk_cell (F1.out.old HB1.out (not_less _ _)) 1
            skip
            cases hp4 : numP [x.f1] with
            | none =>
              as_aux_lemma =>
              have HP4 := Aside0.mk hp4; clear hp4
              go_wp2_with (go_at_call 69; refine (num_fresh1 g (L ++ b3) x.f1 (Less S wr.heap.size) _ (HS1.out.next F1.out.size) HW1.out (by rw [List.length_append, HB3.out]; have := HLN.out; have := HLT.out; have := HC8.out; have := HL.out; omega)).mono ?_; rintro e w1 hx; rw [HP4.out] at hx; obtain ⟨rfl, hf⟩ := hx; have F1_n := Aside0.mk (F1.out.trans hf); clear F1; have F1 := F1_n; clear F1_n; clear hf)
              refine ⟨rfl, ?_⟩
              show After S g w l (tablesP r) (gaveUp 1) _
              rw [show tablesP r = none by unfold tablesP; rw [HP1.out, HP2.out, HJ1.out, HP5.out, join_none HX.out (by unfold rowQ; rw [HP3.out, HP4.out]; rfl)]; rfl]
              exact ⟨rfl, F0.out.trans (FS.more F1.out)⟩
            | some b4 =>
            as_aux_lemma =>
            have HP4 := Aside0.mk hp4; have HB4 := Aside0.mk (num_len hp4); clear hp4
            go_wp2_with (go_at_call 69; refine (num_fresh1 g (L ++ b3) x.f1 (Less S wr.heap.size) _ (HS1.out.next F1.out.size) HW1.out (by rw [List.length_append, HB3.out]; have := HLN.out; have := HLT.out; have := HC8.out; have := HL.out; omega)).mono ?_; rintro e w5 hx; rw [HP4.out] at hx; obtain ⟨rfl, hk, hf⟩ := hx; have HW1_n := Aside0.mk (hk); have F1_n := Aside0.mk (F1.out.trans hf); clear HW1 F1; have HW1 := HW1_n; have F1 := F1_n; clear HW1_n F1_n; clear hk hf)
            have FF := Aside0.mk (F0.out.trans (FS.more F1.out)); have WW := Aside0.mk (HW1.out.more); clear F0 F1 HW1
            (try simp only [hwk])
            obtain ⟨bs, hj, hL⟩ := HJ.out
            refine ⟨⟨k + 1, L ++ b3 ++ b4, rfl, ⟨HLT.out⟩, ⟨bs ++ (b3 ++ b4), join_succ HX.out hj (by unfold rowQ; rw [HP3.out, HP4.out]; rfl), by rw [hL]; simp only [List.append_assoc]⟩, ⟨?_⟩, WW, FF⟩, ?_⟩
            · have := HLN.out; have h5 := HB4.out; rw [List.length_append, List.length_append, HB3.out, h5]; simp only [List.length_cons, List.length_nil]; omega
            · have := HLT.out
              show r.f10.length - (intOf (.int .i64 ((k + 1 : Nat) : Int))).toNat < r.f10.length - (intOf (.int .i64 (k : Int))).toNat
              simp only [intOf]; omega
          · obtain rfl : k = r.f10.length := by have := K.out; omega
            clear hlt
            obtain ⟨bs2, hj2, hL2⟩ := HJ.out
            rw [List.take_length] at hj2
            go_wp2
            go_end0
            show After S g w l (tablesP r) _ _
            rw [show tablesP r = some (b1 ++ (b2 ++ (bs ++ (b5 ++ bs2)))) by unfold tablesP; rw [HP1.out, HP2.out, HJ1.out, HP5.out, hj2]; rfl]
            exact ⟨rfl, by have h := HW.out; rw [hL2, HL1.out] at h; simpa only [List.append_assoc] using h, F.out⟩
end Go.Proofs.Ytcelfhoomhmioaa.Wr
set_option maxRecDepth 8192
namespace Go.Proofs.Ytcelfhoomhmioaa.Sa
open Go Go.RowKit Go.ChangeMaps Go.Proofs.Ytcelfhoomhmioaa.Rp Go.Proofs.Ytcelfhoomhmioaa.X4 Go.Proofs.YtcelfhoomhmioaaW.PrintWords Go.Proofs.YtcelfhoomhmioaaW.PrintLast Go.Proofs.YtcelfhoomhmioaaW.PrintMore
set_option linter.unusedVariables false
set_option linter.unusedSimpArgs false
attribute [local go_sem high] eqA134 eqA70
theorem neT_iff (x y : S134) : (!(x.f0 == y.f0) || (!(x.f1 == y.f1) || (!(x.f2 == y.f2)))) = false ↔ x = y := by
  obtain ⟨a, b, c⟩ := x
  obtain ⟨d, e, f⟩ := y
  simp only [S134.mk.injEq]
  by_cases h1 : a = d <;> by_cases h2 : b = e <;> simp [h1, h2]
theorem take_neT {X Y : List S134} {k : Nat} {x y : S134} (hx : X[k]? = some x) (hy : Y[k]? = some y) (hn : x ≠ y) : X ≠ Y := fun e => by
  subst e
  rw [hx] at hy
  exact hn (Option.some.inj hy)
theorem take_eqT {X Y : List S134} {k : Nat} {x : S134} (h : X.take k = Y.take k) (hx : X[k]? = some x) (hy : Y[k]? = some x) : X.take (k + 1) = Y.take (k + 1) := by
  rw [List.take_add_one, List.take_add_one, h, hx, hy]
theorem neQ_iff (x y : S70) : (!(x.f0 == y.f0) || (!(x.f1 == y.f1))) = false ↔ x = y := by
  obtain ⟨a, b⟩ := x
  obtain ⟨d, e⟩ := y
  simp only [S70.mk.injEq]
  by_cases h1 : a = d <;> by_cases h2 : b = e <;> simp [h1, h2]
theorem take_neQ {X Y : List S70} {k : Nat} {x y : S70} (hx : X[k]? = some x) (hy : Y[k]? = some y) (hn : x ≠ y) : X ≠ Y := fun e => by
  subst e
  rw [hx] at hy
  exact hn (Option.some.inj hy)
theorem take_eqQ {X Y : List S70} {k : Nat} {x : S70} (h : X.take k = Y.take k) (hx : X[k]? = some x) (hy : Y[k]? = some x) : X.take (k + 1) = Y.take (k + 1) := by
  rw [List.take_add_one, List.take_add_one, h, hx, hy]
set_option maxHeartbeats 1000000 in
theorem eqT_calls (X Y : List S134) (A : Option Addr) (c : Nat) (B : Option Addr) (d : Nat) (w : World) (hx : Kd.C k134 w A X.length X) (hy : Kd.C k134 w B Y.length Y) (hl : X.length ≤ 1000000) : Calls Try.prog 65 #[.slice A X.length c, .slice B Y.length d] w fun e w' => e = .returned (.bool (decide (X = Y))) ∧ Below w.heap.size w w' := by
  have hu := Try.underlying134
  have HCX := Aside0.mk hx; have HCY := Aside0.mk hy; have HL := Aside0.mk hl
  clear hx hy hl
  by_cases hle : X.length = Y.length
  rotate_left
  · have e1 : ((X.length : Int) != (Y.length : Int)) = true := by rw [bne_iff_ne]; omega
    have e2 : (X.length == Y.length) = false := by rw [beq_eq_false_iff_ne]; exact hle
    have HN := Aside0.mk (show decide (X = Y) = false from decide_eq_false fun e => hle (by rw [e]))
    clear hle
    go_enter Try.func65, Try.ntmps65
    go_wp2
    go_ret
    exact ⟨by rw [HN.out]; rfl, Below.refl _ _⟩
  have e1 : ((X.length : Int) != (Y.length : Int)) = false := by rw [bne_eq_false_iff_eq]; omega
  have e2 : (X.length == Y.length) = true := by rw [beq_iff_eq]; exact hle
  have HLE := Aside0.mk hle
  clear hle
  go_enter Try.func65, Try.ntmps65
  go_upto_region 4 with (fail)
  clear e1 e2
  go_loopw [13] (fun v wr => ∃ k : Nat, v = .int .i64 k ∧ Aside0 (k ≤ X.length) ∧ Aside0 (X.take k = Y.take k) ∧ Aside0 (∃ m, wr = w.drewN m)) (fun v _ => X.length - (intOf v).toNat)
  case atStart => exact ⟨0, rfl, ⟨Nat.zero_le _⟩, ⟨rfl⟩, ⟨0, rfl⟩⟩
  case round =>
    obtain ⟨k, rfl, K, HT, HW⟩ := hrel
    obtain ⟨m, rfl⟩ := HW.out
    by_cases hlt : k < X.length
    · have h1 : (k : Int) < (X.length : Int) := by omega
      have h1b : (k : Int) < (Y.length : Int) := by have := HLE.out; omega
      have h2 : (0 : Int) ≤ (k : Int) := by omega
      have hly : k < Y.length := by have := HLE.out; omega
      have hwk : wrap64 ((k : Int) + 1) = ((k + 1 : Nat) : Int) := by have := HL.out; unfold wrap64; omega
      obtain ⟨ad, e_, x0, x1, x2⟩ := at_T134 HCX.out k h2 h1
      obtain ⟨bd, e2_, y0, y1, y2⟩ := at_T134 HCY.out k h2 h1b
      have hX : X[k]? = some (rd_T134 X k) := by unfold rd_T134; rw [Int.toNat_natCast, List.getD_eq_getElem?_getD, List.getElem?_eq_getElem (by omega)]; rfl
      have hY : Y[k]? = some (rd_T134 Y k) := by unfold rd_T134; rw [Int.toNat_natCast, List.getD_eq_getElem?_getD, List.getElem?_eq_getElem (by omega)]; rfl
      have HX := Aside0.mk hX; have HY := Aside0.mk hY; clear hX hY
      simp only [Int.toNat_natCast] at x0 x1 x2 y0 y1 y2
      subst e_; subst e2_
      generalize rd_T134 X k = x at *
      generalize rd_T134 Y k = y at *
      have HLT := Aside0.mk hlt
      by_cases hxy : x = y
      · have n1 : (!(x.f0 == y.f0) || (!(x.f1 == y.f1) || (!(x.f2 == y.f2)))) = false := (neT_iff x y).2 hxy
        have HXY := Aside0.mk hxy; clear hxy hlt
        go_wp2
        go_quiet (fail)
        go_wp2
        (try simp only [hwk])
        refine ⟨⟨k + 1, rfl, ⟨HLT.out⟩, ⟨take_eqT HT.out HX.out (by rw [HXY.out]; exact HY.out)⟩, ⟨⟨_, rfl⟩⟩⟩, ?_⟩
        have := HLT.out
        show X.length - (intOf (.int .i64 ((k + 1 : Nat) : Int))).toNat < X.length - (intOf (.int .i64 (k : Int))).toNat
        simp only [intOf]; omega
      · have n1 : (!(x.f0 == y.f0) || (!(x.f1 == y.f1) || (!(x.f2 == y.f2)))) = true := by rw [← Bool.not_eq_false, neT_iff]; exact hxy
        have HN := Aside0.mk (show decide (X = Y) = false from decide_eq_false (take_neT HX.out HY.out hxy))
        clear hxy hlt
        go_wp2
        go_quiet (fail)
        go_wp2
        go_ret
        exact ⟨by rw [HN.out]; rfl, pw_below_drewN (pw_below_drewN (Below.refl _ _) _) _⟩
    · obtain rfl : k = X.length := by have := K.out; omega
      have HN := Aside0.mk (show decide (X = Y) = true by
        have h := HT.out
        rw [List.take_length, HLE.out, List.take_length] at h
        exact decide_eq_true h)
      clear hlt
      go_wp2
      go_ret
      exact ⟨by rw [HN.out]; rfl, pw_below_drewN (Below.refl _ _) _⟩
set_option maxHeartbeats 1000000 in
theorem eqQ_calls (X Y : List S70) (A : Option Addr) (c : Nat) (B : Option Addr) (d : Nat) (w : World) (hx : Kd.C k70 w A X.length X) (hy : Kd.C k70 w B Y.length Y) (hl : X.length ≤ 1000000) : Calls Try.prog 66 #[.slice A X.length c, .slice B Y.length d] w fun e w' => e = .returned (.bool (decide (X = Y))) ∧ Below w.heap.size w w' := by
  have hu := Try.underlying70
  have HCX := Aside0.mk hx; have HCY := Aside0.mk hy; have HL := Aside0.mk hl
  clear hx hy hl
  by_cases hle : X.length = Y.length
  rotate_left
  · have e1 : ((X.length : Int) != (Y.length : Int)) = true := by rw [bne_iff_ne]; omega
    have e2 : (X.length == Y.length) = false := by rw [beq_eq_false_iff_ne]; exact hle
    have HN := Aside0.mk (show decide (X = Y) = false from decide_eq_false fun e => hle (by rw [e]))
    clear hle
    go_enter Try.func66, Try.ntmps66
    go_wp2
    go_ret
    exact ⟨by rw [HN.out]; rfl, Below.refl _ _⟩
  have e1 : ((X.length : Int) != (Y.length : Int)) = false := by rw [bne_eq_false_iff_eq]; omega
  have e2 : (X.length == Y.length) = true := by rw [beq_iff_eq]; exact hle
  have HLE := Aside0.mk hle
  clear hle
  go_enter Try.func66, Try.ntmps66
  go_upto_region 4 with (fail)
  clear e1 e2
  go_loopw [13] (fun v wr => ∃ k : Nat, v = .int .i64 k ∧ Aside0 (k ≤ X.length) ∧ Aside0 (X.take k = Y.take k) ∧ Aside0 (∃ m, wr = w.drewN m)) (fun v _ => X.length - (intOf v).toNat)
  case atStart => exact ⟨0, rfl, ⟨Nat.zero_le _⟩, ⟨rfl⟩, ⟨0, rfl⟩⟩
  case round =>
    obtain ⟨k, rfl, K, HT, HW⟩ := hrel
    obtain ⟨m, rfl⟩ := HW.out
    by_cases hlt : k < X.length
    · have h1 : (k : Int) < (X.length : Int) := by omega
      have h1b : (k : Int) < (Y.length : Int) := by have := HLE.out; omega
      have h2 : (0 : Int) ≤ (k : Int) := by omega
      have hly : k < Y.length := by have := HLE.out; omega
      have hwk : wrap64 ((k : Int) + 1) = ((k + 1 : Nat) : Int) := by have := HL.out; unfold wrap64; omega
      obtain ⟨ad, e_, x0, x1⟩ := at_T70 HCX.out k h2 h1
      obtain ⟨bd, e2_, y0, y1⟩ := at_T70 HCY.out k h2 h1b
      have hX : X[k]? = some (rd_T70 X k) := by unfold rd_T70; rw [Int.toNat_natCast, List.getD_eq_getElem?_getD, List.getElem?_eq_getElem (by omega)]; rfl
      have hY : Y[k]? = some (rd_T70 Y k) := by unfold rd_T70; rw [Int.toNat_natCast, List.getD_eq_getElem?_getD, List.getElem?_eq_getElem (by omega)]; rfl
      have HX := Aside0.mk hX; have HY := Aside0.mk hY; clear hX hY
      simp only [Int.toNat_natCast] at x0 x1 y0 y1
      subst e_; subst e2_
      generalize rd_T70 X k = x at *
      generalize rd_T70 Y k = y at *
      have HLT := Aside0.mk hlt
      by_cases hxy : x = y
      · have n1 : (!(x.f0 == y.f0) || (!(x.f1 == y.f1))) = false := (neQ_iff x y).2 hxy
        have HXY := Aside0.mk hxy; clear hxy hlt
        go_wp2
        go_quiet (fail)
        go_wp2
        (try simp only [hwk])
        refine ⟨⟨k + 1, rfl, ⟨HLT.out⟩, ⟨take_eqQ HT.out HX.out (by rw [HXY.out]; exact HY.out)⟩, ⟨⟨_, rfl⟩⟩⟩, ?_⟩
        have := HLT.out
        show X.length - (intOf (.int .i64 ((k + 1 : Nat) : Int))).toNat < X.length - (intOf (.int .i64 (k : Int))).toNat
        simp only [intOf]; omega
      · have n1 : (!(x.f0 == y.f0) || (!(x.f1 == y.f1))) = true := by rw [← Bool.not_eq_false, neQ_iff]; exact hxy
        have HN := Aside0.mk (show decide (X = Y) = false from decide_eq_false (take_neQ HX.out HY.out hxy))
        clear hxy hlt
        go_wp2
        go_quiet (fail)
        go_wp2
        go_ret
        exact ⟨by rw [HN.out]; rfl, pw_below_drewN (pw_below_drewN (Below.refl _ _) _) _⟩
    · obtain rfl : k = X.length := by have := K.out; omega
      have HN := Aside0.mk (show decide (X = Y) = true by
        have h := HT.out
        rw [List.take_length, HLE.out, List.take_length] at h
        exact decide_eq_true h)
      clear hlt
      go_wp2
      go_ret
      exact ⟨by rw [HN.out]; rfl, pw_below_drewN (Below.refl _ _) _⟩
theorem two_below {w w' : World} {X Y : Obj} (hb : Below ((w.alloc X).alloc Y).heap.size ((w.alloc X).alloc Y) w') : w'.heap[w.heap.size]? = some X ∧ w'.heap[w.heap.size + 1]? = some Y := by
  have h1 : ((w.alloc X).alloc Y).heap[w.heap.size]? = some X := blk_below (heap_alloc_new w X) ((Below.refl _ _).alloc (Nat.le_refl _) Y)
  have h2 := heap_alloc_new (w.alloc X) Y
  rw [show (w.alloc X).heap.size = w.heap.size + 1 by simp] at h2
  exact ⟨blk_below h1 hb, blk_below h2 hb⟩
abbrev aggR (r : S39) (B9 : Option Addr) (d9 : Nat) (B10 : Option Addr) (d10 : Nat) : Value := .agg #[.int .i64 r.f0, .int .i64 r.f1, .int .i64 r.f2, .int .i64 r.f3, .int .i64 r.f4, .int .i64 r.f5, .int .i64 r.f6, .string r.f7, .string r.f8, .slice B9 r.f9.length d9, .slice B10 r.f10.length d10]
set_option maxHeartbeats 4000000 in
theorem same_calls (a b : S39) (A9 : Option Addr) (c9 : Nat) (A10 : Option Addr) (c10 : Nat) (B9 : Option Addr) (d9 : Nat) (B10 : Option Addr) (d10 : Nat) (w : World)
    (h9 : Kd.C k134 w A9 a.f9.length a.f9) (h10 : Kd.C k70 w A10 a.f10.length a.f10) (g9 : Kd.C k134 w B9 b.f9.length b.f9) (g10 : Kd.C k70 w B10 b.f10.length b.f10) (s9 : a.f9.length ≤ 1000000) (s10 : a.f10.length ≤ 1000000) :
    Calls Try.prog 51 #[aggR a A9 c9 A10 c10, aggR b B9 d9 B10 d10] w fun e w' => e = .returned (.bool (decide (a = b))) ∧ Below w.heap.size w w' := by
  have H9 := Aside0.mk h9; have H10 := Aside0.mk h10; have G9 := Aside0.mk g9; have G10 := Aside0.mk g10; have S9 := Aside0.mk s9; have S10 := Aside0.mk s10
  clear h9 h10 g9 g10 s9 s10
  by_cases h0 : a.f0 = b.f0
  rotate_left
  · have e0 : (a.f0 == b.f0) = false := by rw [beq_eq_false_iff_ne]; exact h0
    have HN := Aside0.mk (show decide (a = b) = false from decide_eq_false fun e => h0 (by rw [e]))
    clear h0
    go_enter Try.func51, Try.ntmps51
    go_wp2
    go_ret
    exact ⟨by rw [HN.out]; rfl, ((Below.refl w.heap.size w).alloc (Nat.le_refl _) _).alloc (by simp) _⟩
  have e0 : (a.f0 == b.f0) = true := by rw [beq_iff_eq, h0]
  have Q0 := Aside0.mk h0; clear h0
  by_cases h1 : a.f1 = b.f1
  rotate_left
  · have e1 : (a.f1 == b.f1) = false := by rw [beq_eq_false_iff_ne]; exact h1
    have HN := Aside0.mk (show decide (a = b) = false from decide_eq_false fun e => h1 (by rw [e]))
    clear h1
    go_enter Try.func51, Try.ntmps51
    go_wp2
    go_ret
    exact ⟨by rw [HN.out]; rfl, ((Below.refl w.heap.size w).alloc (Nat.le_refl _) _).alloc (by simp) _⟩
  have e1 : (a.f1 == b.f1) = true := by rw [beq_iff_eq, h1]
  have Q1 := Aside0.mk h1; clear h1
  by_cases h2 : a.f2 = b.f2
  rotate_left
  · have e2 : (a.f2 == b.f2) = false := by rw [beq_eq_false_iff_ne]; exact h2
    have HN := Aside0.mk (show decide (a = b) = false from decide_eq_false fun e => h2 (by rw [e]))
    clear h2
    go_enter Try.func51, Try.ntmps51
    go_wp2
    go_ret
    exact ⟨by rw [HN.out]; rfl, ((Below.refl w.heap.size w).alloc (Nat.le_refl _) _).alloc (by simp) _⟩
  have e2 : (a.f2 == b.f2) = true := by rw [beq_iff_eq, h2]
  have Q2 := Aside0.mk h2; clear h2
  by_cases h3 : a.f3 = b.f3
  rotate_left
  · have e3 : (a.f3 == b.f3) = false := by rw [beq_eq_false_iff_ne]; exact h3
    have HN := Aside0.mk (show decide (a = b) = false from decide_eq_false fun e => h3 (by rw [e]))
    clear h3
    go_enter Try.func51, Try.ntmps51
    go_wp2
    go_ret
    exact ⟨by rw [HN.out]; rfl, ((Below.refl w.heap.size w).alloc (Nat.le_refl _) _).alloc (by simp) _⟩
  have e3 : (a.f3 == b.f3) = true := by rw [beq_iff_eq, h3]
  have Q3 := Aside0.mk h3; clear h3
  by_cases h4 : a.f4 = b.f4
  rotate_left
  · have e4 : (a.f4 == b.f4) = false := by rw [beq_eq_false_iff_ne]; exact h4
    have HN := Aside0.mk (show decide (a = b) = false from decide_eq_false fun e => h4 (by rw [e]))
    clear h4
    go_enter Try.func51, Try.ntmps51
    go_wp2
    go_ret
    exact ⟨by rw [HN.out]; rfl, ((Below.refl w.heap.size w).alloc (Nat.le_refl _) _).alloc (by simp) _⟩
  have e4 : (a.f4 == b.f4) = true := by rw [beq_iff_eq, h4]
  have Q4 := Aside0.mk h4; clear h4
  by_cases h5 : a.f5 = b.f5
  rotate_left
  · have e5 : (a.f5 == b.f5) = false := by rw [beq_eq_false_iff_ne]; exact h5
    have HN := Aside0.mk (show decide (a = b) = false from decide_eq_false fun e => h5 (by rw [e]))
    clear h5
    go_enter Try.func51, Try.ntmps51
    go_wp2
    go_ret
    exact ⟨by rw [HN.out]; rfl, ((Below.refl w.heap.size w).alloc (Nat.le_refl _) _).alloc (by simp) _⟩
  have e5 : (a.f5 == b.f5) = true := by rw [beq_iff_eq, h5]
  have Q5 := Aside0.mk h5; clear h5
  by_cases h6 : a.f6 = b.f6
  rotate_left
  · have e6 : (a.f6 == b.f6) = false := by rw [beq_eq_false_iff_ne]; exact h6
    have HN := Aside0.mk (show decide (a = b) = false from decide_eq_false fun e => h6 (by rw [e]))
    clear h6
    go_enter Try.func51, Try.ntmps51
    go_wp2
    go_ret
    exact ⟨by rw [HN.out]; rfl, ((Below.refl w.heap.size w).alloc (Nat.le_refl _) _).alloc (by simp) _⟩
  have e6 : (a.f6 == b.f6) = true := by rw [beq_iff_eq, h6]
  have Q6 := Aside0.mk h6; clear h6
  by_cases h7 : a.f7 = b.f7
  rotate_left
  · have e7 : (a.f7.toList == b.f7.toList) = false := by rw [beq_eq_false_iff_ne]; exact fun e => h7 ((toList_eq _ _).1 e)
    have HN := Aside0.mk (show decide (a = b) = false from decide_eq_false fun e => h7 (by rw [e]))
    clear h7
    go_enter Try.func51, Try.ntmps51
    go_wp2
    go_ret
    exact ⟨by rw [HN.out]; rfl, ((Below.refl w.heap.size w).alloc (Nat.le_refl _) _).alloc (by simp) _⟩
  have e7 : (a.f7.toList == b.f7.toList) = true := by rw [beq_iff_eq, h7]
  have Q7 := Aside0.mk h7; clear h7
  by_cases h8 : a.f8 = b.f8
  rotate_left
  · have e8 : (a.f8.toList == b.f8.toList) = false := by rw [beq_eq_false_iff_ne]; exact fun e => h8 ((toList_eq _ _).1 e)
    have HN := Aside0.mk (show decide (a = b) = false from decide_eq_false fun e => h8 (by rw [e]))
    clear h8
    go_enter Try.func51, Try.ntmps51
    go_wp2
    go_ret
    exact ⟨by rw [HN.out]; rfl, ((Below.refl w.heap.size w).alloc (Nat.le_refl _) _).alloc (by simp) _⟩
  have e8 : (a.f8.toList == b.f8.toList) = true := by rw [beq_iff_eq, h8]
  have Q8 := Aside0.mk h8; clear h8
  by_cases h9 : a.f9 = b.f9
  rotate_left
  · have HN := Aside0.mk (show decide (a = b) = false from decide_eq_false fun e => h9 (by rw [e])); have HD9 := Aside0.mk (decide_eq_false h9)
    clear h9
    go_enter Try.func51, Try.ntmps51
    go_wp2_with (go_at_call 65; (with_reducible refine (eqT_calls a.f9 b.f9 _ _ _ _ _ (Kd.C_below H9.out (((Below.refl w.heap.size w).alloc (Nat.le_refl _) _).alloc (by simp) _)) (Kd.C_below G9.out (((Below.refl w.heap.size w).alloc (Nat.le_refl _) _).alloc (by simp) _)) S9.out).mono ?_); rintro e w9 ⟨rfl, hb_⟩; rw [HD9.out]; have HB9 := Aside0.mk (Below.trans (((Below.refl w.heap.size w).alloc (Nat.le_refl _) _).alloc (by simp) _) (hb_.mono (by simp; omega))); have q10 : w9.cell? ⟨w.heap.size, 10, none⟩ = some (.slice A10 a.f10.length c10) := blk_cell (two_below hb_).1 10; have p10 : w9.cell? ⟨w.heap.size + 1, 10, none⟩ = some (.slice B10 b.f10.length d10) := blk_cell (two_below hb_).2 10; clear hb_)
    go_ret
    exact ⟨by rw [HN.out]; rfl, HB9.out⟩
  by_cases h10 : a.f10 = b.f10
  rotate_left
  · have HN := Aside0.mk (show decide (a = b) = false from decide_eq_false fun e => h10 (by rw [e])); have HD9 := Aside0.mk (decide_eq_true h9); have HD10 := Aside0.mk (decide_eq_false h10)
    clear h9 h10
    go_enter Try.func51, Try.ntmps51
    go_wp2_with (first | (go_at_call 65; (with_reducible refine (eqT_calls a.f9 b.f9 _ _ _ _ _ (Kd.C_below H9.out (((Below.refl w.heap.size w).alloc (Nat.le_refl _) _).alloc (by simp) _)) (Kd.C_below G9.out (((Below.refl w.heap.size w).alloc (Nat.le_refl _) _).alloc (by simp) _)) S9.out).mono ?_); rintro e w9 ⟨rfl, hb_⟩; rw [HD9.out]; have HB9 := Aside0.mk (Below.trans (((Below.refl w.heap.size w).alloc (Nat.le_refl _) _).alloc (by simp) _) (hb_.mono (by simp; omega))); have q10 : w9.cell? ⟨w.heap.size, 10, none⟩ = some (.slice A10 a.f10.length c10) := blk_cell (two_below hb_).1 10; have p10 : w9.cell? ⟨w.heap.size + 1, 10, none⟩ = some (.slice B10 b.f10.length d10) := blk_cell (two_below hb_).2 10; clear hb_) | (go_at_call 66; (with_reducible refine (eqQ_calls a.f10 b.f10 _ _ _ _ _ (Kd.C_below H10.out (HB9.out)) (Kd.C_below G10.out (HB9.out)) S10.out).mono ?_); rintro e w10 ⟨rfl, hb_⟩; rw [HD10.out]; have HB10 := Aside0.mk (HB9.out.trans (hb_.mono HB9.out.size)); clear hb_))
    go_ret
    exact ⟨by rw [HN.out]; rfl, HB10.out⟩
  have HN := Aside0.mk (show decide (a = b) = true from decide_eq_true (by obtain ⟨a0, a1, a2, a3, a4, a5, a6, a7, a8, a9, a10⟩ := a; obtain ⟨b0, b1, b2, b3, b4, b5, b6, b7, b8, b9, b10⟩ := b; have := Q0.out; have := Q1.out; have := Q2.out; have := Q3.out; have := Q4.out; have := Q5.out; have := Q6.out; have := Q7.out; have := Q8.out; simp_all)); have HD9 := Aside0.mk (decide_eq_true h9); have HD10 := Aside0.mk (decide_eq_true h10)
  clear h9 h10
  go_enter Try.func51, Try.ntmps51
  go_wp2_with (first | (go_at_call 65; (with_reducible refine (eqT_calls a.f9 b.f9 _ _ _ _ _ (Kd.C_below H9.out (((Below.refl w.heap.size w).alloc (Nat.le_refl _) _).alloc (by simp) _)) (Kd.C_below G9.out (((Below.refl w.heap.size w).alloc (Nat.le_refl _) _).alloc (by simp) _)) S9.out).mono ?_); rintro e w9 ⟨rfl, hb_⟩; rw [HD9.out]; have HB9 := Aside0.mk (Below.trans (((Below.refl w.heap.size w).alloc (Nat.le_refl _) _).alloc (by simp) _) (hb_.mono (by simp; omega))); have q10 : w9.cell? ⟨w.heap.size, 10, none⟩ = some (.slice A10 a.f10.length c10) := blk_cell (two_below hb_).1 10; have p10 : w9.cell? ⟨w.heap.size + 1, 10, none⟩ = some (.slice B10 b.f10.length d10) := blk_cell (two_below hb_).2 10; clear hb_) | (go_at_call 66; (with_reducible refine (eqQ_calls a.f10 b.f10 _ _ _ _ _ (Kd.C_below H10.out (HB9.out)) (Kd.C_below G10.out (HB9.out)) S10.out).mono ?_); rintro e w10 ⟨rfl, hb_⟩; rw [HD10.out]; have HB10 := Aside0.mk (HB9.out.trans (hb_.mono HB9.out.size)); clear hb_))
  go_ret
  exact ⟨by rw [HN.out]; rfl, HB10.out⟩
end Go.Proofs.Ytcelfhoomhmioaa.Sa
set_option maxRecDepth 8192
namespace Go.Proofs.Ytcelfhoomhmioaa.St
open Go Go.RowKit Go.ChangeMaps Go.Proofs.Ytcelfhoomhmioaa.Arr Go.Proofs.Ytcelfhoomhmioaa.Mp Go.Proofs.Ytcelfhoomhmioaa.Ow Go.Proofs.Ytcelfhoomhmioaa.Dk Go.Proofs.Ytcelfhoomhmioaa.X12 Go.Proofs.YtcelfhoomhmioaaW.PrintWords Go.Proofs.YtcelfhoomhmioaaW.PrintLast Go.Proofs.YtcelfhoomhmioaaW.PrintMore
set_option linter.unusedVariables false
set_option linter.unusedSimpArgs false
abbrev TT : TypeId := 83
abbrev TE : TypeId := 29
abbrev gaveUp (c : Int) : Ending := .panicked [{ v := .iface TE (.int .i64 c), recovered := false }]
def endS (e : Int) : Ending := if e = 0 then .returned (.tuple #[]) else gaveUp e
/-- A store's cells. -/
def SB (w : World) (gs g : Nat) (base n t : Int) : Prop := w.heap[gs]? = some (.cells #[.pointer (some ⟨g, 0, none⟩), .int .i64 base, .int .i64 n, .int .u32 t] TT (0, 0))
/-- A store over a disk: the store's own block is none of the disk's. -/
structure SK (w : World) (S : Nat → Prop) (gs g : Nat) (base n t : Int) (d : DS) : Prop where
  blk : SB w gs g base n t
  off : ¬ S gs
  dk : DK w S g d
theorem blk_lt {w : World} {k : Nat} {o : Obj} (h : w.heap[k]? = some o) : k < w.heap.size := by
  rcases Nat.lt_or_ge k w.heap.size with h1 | h1
  · exact h1
  · simp [Array.getElem?_eq_none h1] at h
theorem SB.below {w w' : World} {gs g : Nat} {base n t : Int} (h : SB w gs g base n t) (hb : Below w.heap.size w w') : SB w' gs g base n t := (hb.block gs (blk_lt h)).trans h
section
variable {w w' : World} {S : Nat → Prop} {gs g : Nat} {base n t : Int} {d d' : DS}
theorem SK.below (h : SK w S gs g base n t d) (hb : Below w.heap.size w w') : SK w' S gs g base n t d := ⟨h.blk.below hb, h.off, h.dk.below hb⟩
theorem SK.drew (h : SK w S gs g base n t d) : SK w.drew S gs g base n t d := h.below ((Below.refl _ _).drew)
theorem SK.step (h : SK w S gs g base n t d) (hf : FS S w w') (hd : DK w' S g d') : SK w' S gs g base n t d' := ⟨hf.old h.blk h.off, h.off, hd⟩
theorem SK.c0 (h : SK w S gs g base n t d) : w.cell? ⟨gs, 0, none⟩ = some (.pointer (some ⟨g, 0, none⟩)) := blk_cell h.blk 0
theorem SK.c1 (h : SK w S gs g base n t d) : w.cell? ⟨gs, 1, none⟩ = some (.int .i64 base) := blk_cell h.blk 1
theorem SK.c2 (h : SK w S gs g base n t d) : w.cell? ⟨gs, 2, none⟩ = some (.int .i64 n) := blk_cell h.blk 2
theorem SK.c3 (h : SK w S gs g base n t d) : w.cell? ⟨gs, 3, none⟩ = some (.int .u32 t) := blk_cell h.blk 3
theorem SK.lt (h : SK w S gs g base n t d) : gs < w.heap.size := blk_lt h.blk
end
theorem must_yes (w : World) : Calls Try.prog 63 #[.int .i64 0] w fun e w' => e = .returned (.tuple #[]) ∧ w' = w := by
  go_enter Try.func63, Try.ntmps63
  go_wp2
  go_end0
  exact ⟨rfl, rfl⟩
theorem must_no (c : Int) (hc : c ≠ 0) (w : World) : Calls Try.prog 63 #[.int .i64 c] w fun e w' => e = gaveUp c ∧ w' = w := by
  have h1 : (c != 0) = true := by simpa using hc
  have h2 : (c == 0) = false := by simpa using hc
  go_enter Try.func63, Try.ntmps63
  go_wp2
  exact ⟨rfl, rfl, rfl⟩
theorem as_errno (v : Value) (w : World) : (Instr.typeAssert (.iface TE v) 20 TE true).run Try.prog w = .ok (.tuple #[v, .bool true]) w := by kernel_rfl
theorem as_none (w : World) : (Instr.typeAssert .nilIface 20 TE true).run Try.prog w = .ok (.tuple #[.int .i64 0, .bool false]) w := by kernel_rfl
theorem caught_up (p : Addr) (x c : Int) (older : List PanicEntry) (w : World) (hc : w.cell? p = some (.int .i64 x)) (hz : w.frozen? p = false) :
    CallsD Try.prog 60 #[.pointer (some p)] (.panicking ({ v := .iface TE (.int .i64 c), recovered := false } :: older)) w fun e u' w' =>
      e = .returned (.tuple #[]) ∧ u' = .panicking ({ v := .iface TE (.int .i64 c), recovered := true } :: older) ∧ w' = w.setCell p (.int .i64 c) := by
  refine callsD_of_wpS Try.func60 rfl fun c₀ cs hu => ?_
  apply wpS_seq
  apply wpS_region
  simp [wpOpsS, go_sem, as_errno, as_none, recoverD, hu, Try.ntmps60, Exit.thenS]
  apply wpS_seq
  apply wpS_region
  simp [wpOpsS, go_sem, Exit.thenS]
  refine wpS_cond (t := true) (by simp [Act.eval, Array.replicate]) ?_
  simp only [if_true]
  apply wpS_region
  simp [wpOpsS, go_sem, hc, hz, bodyPostS, results, Try.results60]
theorem caught_idle (p : Addr) (w : World) :
    CallsD Try.prog 60 #[.pointer (some p)] .returning w fun e u' w' => e = .returned (.tuple #[]) ∧ u' = .returning ∧ w' = w := by
  refine callsD_of_wpS Try.func60 rfl fun c₀ cs hu => ?_
  apply wpS_seq
  apply wpS_region
  simp [wpOpsS, go_sem, as_errno, as_none, recoverD, hu, Try.ntmps60, Exit.thenS]
  apply wpS_seq
  apply wpS_region
  simp [wpOpsS, go_sem, Exit.thenS]
  refine wpS_cond (t := false) (by simp [Act.eval, Array.replicate]) ?_
  simp only [Bool.false_eq_true, if_false]
  refine wpS_of_wp (wp_skip ?_)
  cases c₀
  simp_all [bodyPostS, results, Try.results60]
section
variable {P : Program} {ops : Array Oper} {Q : Exit → Act → World → Prop}
/-- A call that may give up. -/
theorem goesP_ {oi : Oper} {N : Option Tmp} {a : Act} {w : World} {K : Act → World → Prop} {f : FuncId} {fn : Func} {os : Array Operand} {ts : Array TypeId} (hf : P.funcs[f]? = some fn) (hname : (fn.name == "runtime.NumGoroutine") = false) (hb : fn.body.isSome = true) (args : Array Value)
    (hw : Region.wanted oi (yielded ops a.tmps) = true) (hN : oi.dst = N) (hop : oi.op = .call { callee := .value (.func f), args := os, argTypes := ts }) (hargs : os.map a.eval = args)
    (h : Calls P f args w fun e w' => (∃ v, e = .returned v ∧ K (a.put N v) w') ∨ (∃ c, e = .panicked c ∧ Q (.panic c) a w')) : if Region.wanted oi (yielded ops a.tmps) = true then Oper.wp P oi a w K Q else K (a.put N undef) w := by
  have he := enters_ hf hname hb args w
  have hrun : (execOp a.eval oi).run P w = .ok (.enter f args) w := by
    unfold execOp
    simp [hop, resolve, Deferred.ofValue, invoke, Act.eval, hargs, he]
  rw [if_pos hw]
  subst hN
  unfold Oper.wp
  rw [hrun, Oper.upon_enter]
  refine h.mono fun e w'' hh => ?_
  rcases hh with ⟨v, rfl, hk⟩ | ⟨c, rfl, hq⟩
  · exact hk
  · exact hq
end
/-- A slab that is put at a place of the disk. -/
def secS (t index : Int) (b : ByteArray) : ByteArray := (packI t index b).1
def Step := DS → Int × DS
def wrS (p : Int) (s : ByteArray) : Step := fun d => (writeE d p s, writeD d p s)
def syS : Step := fun d => (syncE d, syncD d)
def thenS (a b : Step) : Step := fun d => if (a d).1 = 0 then b (a d).2 else a d
def putS (p index t : Int) (b : ByteArray) : Step := wrS p (secS t index b)
def bothS (p index t : Int) (b : ByteArray) : Step := thenS (putS p index t (b.extract 0 112)) (thenS (putS (p + 1) (index + 1) t (b.extract 112 224)) syS)
theorem secS_size (t index : Int) (b : ByteArray) (ht : 0 ≤ t ∧ t < 4294967296) (hi : 0 ≤ index ∧ index < 4294967296) (hb : b.size ≤ 112) : (secS t index b).size = 128 := by
  unfold secS
  rw [← bl_len, (packI_bl t index b ht hi hb).1, Slab.secL_len _ _ _ (by rw [bl_len]; exact hb)]
end Go.Proofs.Ytcelfhoomhmioaa.St
set_option maxRecDepth 8192
namespace Go.Proofs.Ytcelfhoomhmioaa.St
open Go.Proofs.Ytcelfhoomhmioaa.Rgn
open Go Go.RowKit Go.ChangeMaps Go.Proofs.Ytcelfhoomhmioaa.Arr Go.Proofs.Ytcelfhoomhmioaa.Mp Go.Proofs.Ytcelfhoomhmioaa.Ow Go.Proofs.Ytcelfhoomhmioaa.Dk Go.Proofs.YtcelfhoomhmioaaW.PrintWords Go.Proofs.YtcelfhoomhmioaaW.PrintLast Go.Proofs.YtcelfhoomhmioaaW.PrintMore
set_option linter.unusedVariables false
set_option linter.unusedSimpArgs false
theorem pack0 (t index : Int) (b : ByteArray) (ht : 0 ≤ t ∧ t < 4294967296) (hi : 0 ≤ index ∧ index < 4294967296) (hb : b.size ≤ 112) (w : World) : Calls Try.prog 55 #[.agg #[.int .u32 t, .int .u32 index, .string b]] w fun f w' => f = .returned (.tuple #[.string (secS t index b), .int .i64 0]) ∧ Below w.heap.size w w' := by
  have h := X12.pack_calls t index b ht hi w
  rw [(X12.packI_bl t index b ht hi hb).2] at h
  exact h
set_option maxHeartbeats 4000000 in
theorem put_calls {N : Nat} (d : DS) (g gs : Nat) (base n tk i index t : Int) (b : ByteArray) (S : Nat → Prop) (w : World) (hS : Top S w) (h : SK w S gs g base n tk d) (ho : OkN N d) (hi : (0 ≤ base ∧ base ≤ 1000) ∧ 0 ≤ i ∧ i ≤ 1000) (hx : 0 ≤ index ∧ index ≤ 1000) (ht : 0 ≤ t ∧ t < 4294967296) (hb : b.size ≤ 112) :
    Calls Try.prog 62 #[.pointer (some ⟨gs, 0, none⟩), .int .i64 i, .int .i64 index, .int .u32 t, .string b] w fun x w' => x = endS (putS (base + i) index t b d).1 ∧ SK w' S gs g base n tk (putS (base + i) index t b d).2 ∧ FS S w w' := by
  have HS := Aside0.mk hS; have HK := Aside0.mk h; have HO := Aside0.mk ho; have HT := Aside0.mk ht; have HX := Aside0.mk (show 0 ≤ index ∧ index < 4294967296 by omega); have HBS := Aside0.mk hb
  have hw : wrap64 (base + i) = base + i := by unfold wrap64; omega
  have hcv : IntKind.u32.wrap index = index := by rw [IntKind.wrap_u32]; exact Int.emod_eq_of_lt (by omega) (by omega)
  clear hS h ho hi hx ht hb
  rw [show putS (base + i) index t b d = (writeE d (base + i) (secS t index b), writeD d (base + i) (secS t index b)) from rfl]
  go_enter Try.func62, Try.ntmps62
  go_upto_region 2 with (first | (go_at_call 55; (with_reducible refine (pack0 t index b HT.out HX.out HBS.out _).mono ?_); rintro e w1 ⟨rfl, hb1⟩; have HB1 := Aside0.mk hb1; clear hb1) | (go_at_call 63; (with_reducible refine (must_yes _).mono ?_); rintro e w2 ⟨rfl, rfl⟩))
  have HK1 := Aside0.mk (HK.out.below HB1.out).drew
  have F1 := Aside0.mk (((FS.refl S w).below HB1.out).drew)
  have HS1 := Aside0.mk (HS.out.next F1.out.size)
  have c0 := HK1.out.c0; have c1 := HK1.out.c1
  clear HB1 HK
  by_cases he : writeE d (base + i) (secS t index b) = 0
  · have HE := Aside0.mk he; clear he
    refine start_ (n := 13) (S := fun w' => w'.cell? ⟨gs, 0, none⟩ = some (.pointer (some ⟨g, 0, none⟩)) ∧ w'.cell? ⟨gs, 1, none⟩ = some (.int .i64 base)) (ds := []) #[false, false, false, false, false, false, false, false, false, false, false, false, false] (by kernel_rfl) rfl rfl ⟨c0, c1⟩ (fun hHeld => ?_)
    refine rgp 0 23 ?_
    refine rgp 1 24 ?_
    refine rgp 2 25 ?_
    refine rgp 4 27 ?_
    refine rgp 5 28 ?_
    refine rgp 6 29 ?_
    refine rgp 8 31 ?_
    refine rgp 10 33 ?_
    refine rgt 3 26 hHeld ?_
    refine rgt 7 30 hHeld ?_
    refine rgp 9 32 ?_
    refine one_ (i := 11) (N := some 34) #[true, true, true, true, true, true, true, true, true, true, true, true, false] rfl rfl (by kernel_rfl) (by decide) (fun K hK => ?_)
    generalize w2.drew = X0_ at *
    refine goes_ Try.func56 (by kernel_rfl) rfl #[.pointer (some ⟨g, 0, none⟩), .int .i64 (wrap64 (base + i)), .string (secS t index b)] (by rfl) rfl rfl (by (try simp only [List.map_toArray, List.map_cons, List.map_nil]); first | done | rfl) ?_
    rw [hw]
    refine (write_calls d g (base + i) (secS t index b) S _ HS1.out HK1.out.dk HO.out.ok).mono ?_
    rintro e v1_ ⟨rfl, hk, hf⟩
    refine ⟨_, rfl, ?_⟩
    have HK2 := Aside0.mk (HK1.out.step hf hk); have F2 := Aside0.mk (F1.out.trans hf); clear hk hf HK1 F1
    refine hK _ _ ⟨HK2.out.c0, HK2.out.c1⟩ (fun hHeld => ?_)
    clear hK K
    rw [HE.out]
    refine norm_ (a' := ?_) ?_ ?_
    rotate_left
    · show Act.put _ (some 34) _ = _
      simp only [Act.put, List.setIfInBounds_toArray, List.set_cons_zero, List.set_cons_succ, i64_w, i32_w]
      rfl
    refine one_ (i := 12) (N := some 35) #[true, true, true, true, true, true, true, true, true, true, true, true, true] rfl rfl (by kernel_rfl) (by decide) (fun K hK => ?_)
    refine goes_ Try.func63 (by kernel_rfl) rfl #[.int .i64 0] (by rfl) rfl rfl (by (try simp only [List.map_toArray, List.map_cons, List.map_nil]); first | done | rfl) ?_
    refine (must_yes _).mono ?_
    rintro e w9 ⟨rfl, hw9⟩
    replace hw9 := hw9.symm
    subst hw9
    refine ⟨_, rfl, ?_⟩
    refine hK _ _ hHeld (fun hHeld => ?_)
    clear hK K
    refine norm_ (a' := ?_) ?_ ?_
    rotate_left
    · show Act.put _ (some 35) _ = _
      simp only [Act.put, List.setIfInBounds_toArray, List.set_cons_zero, List.set_cons_succ, i64_w, i32_w]
      rfl
    refine done_ (by kernel_rfl) ?_
    clear hHeld c0 c1
    go_wp2
    go_end0
    have en : endS (writeE d (base + i) (secS t index b)) = .returned (.tuple #[]) := if_pos HE.out
    exact ⟨en.symm, HK2.out, F2.out⟩
  · have HE := Aside0.mk he; clear he
    refine start_ (n := 13) (S := fun w' => w'.cell? ⟨gs, 0, none⟩ = some (.pointer (some ⟨g, 0, none⟩)) ∧ w'.cell? ⟨gs, 1, none⟩ = some (.int .i64 base)) (ds := []) #[false, false, false, false, false, false, false, false, false, false, false, false, false] (by kernel_rfl) rfl rfl ⟨c0, c1⟩ (fun hHeld => ?_)
    refine rgp 0 23 ?_
    refine rgp 1 24 ?_
    refine rgp 2 25 ?_
    refine rgp 4 27 ?_
    refine rgp 5 28 ?_
    refine rgp 6 29 ?_
    refine rgp 8 31 ?_
    refine rgp 10 33 ?_
    refine rgt 3 26 hHeld ?_
    refine rgt 7 30 hHeld ?_
    refine rgp 9 32 ?_
    refine one_ (i := 11) (N := some 34) #[true, true, true, true, true, true, true, true, true, true, true, true, false] rfl rfl (by kernel_rfl) (by decide) (fun K hK => ?_)
    generalize w2.drew = X0_ at *
    refine goes_ Try.func56 (by kernel_rfl) rfl #[.pointer (some ⟨g, 0, none⟩), .int .i64 (wrap64 (base + i)), .string (secS t index b)] (by rfl) rfl rfl (by (try simp only [List.map_toArray, List.map_cons, List.map_nil]); first | done | rfl) ?_
    rw [hw]
    refine (write_calls d g (base + i) (secS t index b) S _ HS1.out HK1.out.dk HO.out.ok).mono ?_
    rintro e v1_ ⟨rfl, hk, hf⟩
    refine ⟨_, rfl, ?_⟩
    have HK2 := Aside0.mk (HK1.out.step hf hk); have F2 := Aside0.mk (F1.out.trans hf); clear hk hf HK1 F1
    refine hK _ _ ⟨HK2.out.c0, HK2.out.c1⟩ (fun hHeld => ?_)
    clear hK K
    refine norm_ (a' := ?_) ?_ ?_
    rotate_left
    · show Act.put _ (some 34) _ = _
      simp only [Act.put, List.setIfInBounds_toArray, List.set_cons_zero, List.set_cons_succ, i64_w, i32_w]
      rfl
    refine one_ (i := 12) (N := some 35) #[true, true, true, true, true, true, true, true, true, true, true, true, true] rfl rfl (by kernel_rfl) (by decide) (fun K hK => ?_)
    refine goesP_ Try.func63 (by kernel_rfl) rfl #[.int .i64 (writeE d (base + i) (secS t index b))] (by rfl) rfl rfl (by (try simp only [List.map_toArray, List.map_cons, List.map_nil]); first | done | rfl) ?_
    refine (must_no _ HE.out _).mono ?_
    rintro e w9 ⟨rfl, hw9⟩
    replace hw9 := hw9.symm
    subst hw9
    refine Or.inr ⟨_, rfl, ?_⟩
    have en : endS (writeE d (base + i) (secS t index b)) = gaveUp (writeE d (base + i) (secS t index b)) := if_neg HE.out
    exact ⟨rfl, en.symm, HK2.out, F2.out⟩
end Go.Proofs.Ytcelfhoomhmioaa.St
set_option maxRecDepth 8192
namespace Go.Proofs.Ytcelfhoomhmioaa.St
open Go Go.RowKit Go.ChangeMaps Go.Proofs.Ytcelfhoomhmioaa.Arr Go.Proofs.Ytcelfhoomhmioaa.Mp Go.Proofs.Ytcelfhoomhmioaa.Ow Go.Proofs.Ytcelfhoomhmioaa.Dk Go.Proofs.YtcelfhoomhmioaaW.PrintWords Go.Proofs.YtcelfhoomhmioaaW.PrintLast Go.Proofs.YtcelfhoomhmioaaW.PrintMore
set_option linter.unusedVariables false
set_option linter.unusedSimpArgs false
theorem put_ok {N : Nat} (d : DS) (g gs : Nat) (base n tk i index t : Int) (b : ByteArray) (S : Nat → Prop) (w : World) (hS : Top S w) (h : SK w S gs g base n tk d) (ho : OkN N d) (hi : (0 ≤ base ∧ base ≤ 1000) ∧ 0 ≤ i ∧ i ≤ 1000) (hx : 0 ≤ index ∧ index ≤ 1000) (ht : 0 ≤ t ∧ t < 4294967296) (hb : b.size ≤ 112) (he : (putS (base + i) index t b d).1 = 0) :
    Calls Try.prog 62 #[.pointer (some ⟨gs, 0, none⟩), .int .i64 i, .int .i64 index, .int .u32 t, .string b] w fun x w' => x = .returned (.tuple #[]) ∧ SK w' S gs g base n tk (putS (base + i) index t b d).2 ∧ FS S w w' := by
  refine (put_calls d g gs base n tk i index t b S w hS h ho hi hx ht hb).mono ?_
  rintro e w' ⟨hx, hk⟩
  exact ⟨hx.trans (if_pos he), hk⟩
theorem put_no {N : Nat} (d : DS) (g gs : Nat) (base n tk i index t : Int) (b : ByteArray) (S : Nat → Prop) (w : World) (hS : Top S w) (h : SK w S gs g base n tk d) (ho : OkN N d) (hi : (0 ≤ base ∧ base ≤ 1000) ∧ 0 ≤ i ∧ i ≤ 1000) (hx : 0 ≤ index ∧ index ≤ 1000) (ht : 0 ≤ t ∧ t < 4294967296) (hb : b.size ≤ 112) (he : (putS (base + i) index t b d).1 ≠ 0) :
    Calls Try.prog 62 #[.pointer (some ⟨gs, 0, none⟩), .int .i64 i, .int .i64 index, .int .u32 t, .string b] w fun x w' => x = gaveUp (putS (base + i) index t b d).1 ∧ SK w' S gs g base n tk (putS (base + i) index t b d).2 ∧ FS S w w' := by
  refine (put_calls d g gs base n tk i index t b S w hS h ho hi hx ht hb).mono ?_
  rintro e w' ⟨hx, hk⟩
  exact ⟨hx.trans (if_neg he), hk⟩
theorem ok_put {N : Nat} {d : DS} {p index t : Int} {b : ByteArray} (h : OkN N d) (hN : N < 1000000) : OkN (N + 1) (putS p index t b d).2 := ok_write h hN
theorem both_none {p index t : Int} {b : ByteArray} {d : DS} (h : (putS p index t (b.extract 0 112) d).1 ≠ 0) : bothS p index t b d = putS p index t (b.extract 0 112) d := by
  unfold bothS thenS
  rw [if_neg h]
theorem both_some {p index t : Int} {b : ByteArray} {d : DS} (h : (putS p index t (b.extract 0 112) d).1 = 0) : bothS p index t b d = thenS (putS (p + 1) (index + 1) t (b.extract 112 224)) syS (putS p index t (b.extract 0 112) d).2 := by
  unfold bothS
  rw [show thenS (putS p index t (b.extract 0 112)) (thenS (putS (p + 1) (index + 1) t (b.extract 112 224)) syS) d = if (putS p index t (b.extract 0 112) d).1 = 0 then thenS (putS (p + 1) (index + 1) t (b.extract 112 224)) syS (putS p index t (b.extract 0 112) d).2 else putS p index t (b.extract 0 112) d from rfl, if_pos h]
theorem then_none {a c : Step} {d : DS} (h : (a d).1 ≠ 0) : thenS a c d = a d := by unfold thenS; rw [if_neg h]
theorem then_some {a c : Step} {d : DS} (h : (a d).1 = 0) : thenS a c d = c (a d).2 := by unfold thenS; rw [if_pos h]
set_option maxHeartbeats 4000000 in
theorem both_calls {N : Nat} (d : DS) (g gs : Nat) (base n tk i index t : Int) (b : ByteArray) (S : Nat → Prop) (w : World) (hS : Top S w) (h : SK w S gs g base n tk d) (ho : OkN N d) (hi : (0 ≤ base ∧ base ≤ 1000) ∧ 0 ≤ i ∧ i ≤ 900) (hx : 0 ≤ index ∧ index ≤ 900) (ht : 0 ≤ t ∧ t < 4294967296) (hN : N < 900000) (hb : b.size = 224) :
    Calls Try.prog 61 #[.pointer (some ⟨gs, 0, none⟩), .int .i64 i, .int .i64 index, .int .u32 t, .string b] w fun x w' => x = endS (bothS (base + i) index t b d).1 ∧ SK w' S gs g base n tk (bothS (base + i) index t b d).2 ∧ FS S w w' := by
  have HS := Aside0.mk hS; have HK := Aside0.mk h; have HO := Aside0.mk ho; have HT := Aside0.mk ht; have HN := Aside0.mk hN
  have HI := Aside0.mk (show (0 ≤ base ∧ base ≤ 1000) ∧ 0 ≤ i ∧ i ≤ 1000 by omega); have HX := Aside0.mk (show 0 ≤ index ∧ index ≤ 1000 by omega)
  have HB0 := Aside0.mk (show (b.extract 0 112).size ≤ 112 by rw [ByteArray.size_extract]; omega)
  have HB1 := Aside0.mk (show (b.extract 112 224).size ≤ 112 by rw [ByteArray.size_extract]; omega)
  clear hS h ho ht hN
  by_cases e1 : (putS (base + i) index t (b.extract 0 112) d).1 = 0
  rotate_left
  · have E1 := Aside0.mk e1
    rw [both_none e1]
    clear e1
    go_enter Try.func61, Try.ntmps61
    go_upto_region 1 with (fail)
    go_loopw [11] (fun v wr => v = .int .i64 0 ∧ wr = w) (fun _ _ => 0)
    case atStart => exact ⟨rfl, rfl⟩
    case round =>
      obtain ⟨rfl, rfl⟩ := hrel
      have w0 : wrap64 i = i := by unfold wrap64; omega
      have w1 : wrap64 index = index := by unfold wrap64; omega
      clear hi hx
      go_wp2_with (go_at_call 62; (with_reducible refine (put_no d g gs base n tk i index t (b.extract 0 112) S _ HS.out HK.out HO.out HI.out HX.out HT.out HB0.out E1.out).mono ?_); rintro e w1 ⟨rfl, hk, hf⟩)
      refine ⟨rfl, ?_⟩
      exact ⟨(if_neg E1.out).symm, hk, hf⟩
  have E1 := Aside0.mk e1
  rw [both_some e1]
  have HO1 := Aside0.mk (ok_put (p := base + i) (index := index) (t := t) (b := b.extract 0 112) HO.out (by have := HN.out; omega))
  clear e1
  generalize hd1 : (putS (base + i) index t (b.extract 0 112) d).2 = d1 at *
  have ew : base + i + 1 = base + (i + 1) := by omega
  rw [ew]
  clear ew
  have HI1 := Aside0.mk (show (0 ≤ base ∧ base ≤ 1000) ∧ 0 ≤ i + 1 ∧ i + 1 ≤ 1000 by have := HI.out; omega); have HX1 := Aside0.mk (show 0 ≤ index + 1 ∧ index + 1 ≤ 1000 by omega)
  have w0 : wrap64 i = i := by unfold wrap64; omega
  have w1 : wrap64 index = index := by unfold wrap64; omega
  have w2 : wrap64 (i + 1) = i + 1 := by unfold wrap64; omega
  have w3 : wrap64 (index + 1) = index + 1 := by unfold wrap64; omega
  have HD1 := Aside0.mk hd1
  clear hi hx hd1
  by_cases e2 : (putS (base + (i + 1)) (index + 1) t (b.extract 112 224) d1).1 = 0
  rotate_left
  · have E2 := Aside0.mk e2
    rw [then_none e2]
    clear e2
    go_enter Try.func61, Try.ntmps61
    go_upto_region 1 with (fail)
    go_loopw [11] (fun v wr => (v = .int .i64 0 ∧ wr = w) ∨ (v = .int .i64 1 ∧ Aside0 (SK wr S gs g base n tk d1) ∧ Aside0 (FS S w wr))) (fun v _ => 2 - (intOf v).toNat)
    case atStart => exact .inl ⟨rfl, rfl⟩
    case round =>
      rcases hrel with ⟨rfl, rfl⟩ | ⟨rfl, HK1, F1⟩
      · go_wp2_with (go_at_call 62; (with_reducible refine (put_ok d g gs base n tk i index t (b.extract 0 112) S _ HS.out HK.out HO.out HI.out HX.out HT.out HB0.out E1.out).mono ?_); rintro e w1 ⟨rfl, hk, hf⟩; rw [HD1.out] at hk; have HK1 := Aside0.mk hk; have F1 := Aside0.mk hf; clear hk hf)
        go_roundw
        case rel => exact .inr ⟨rfl, HK1, F1⟩
        case measure => simp [intOf]
      · go_wp2_with (go_at_call 62; (with_reducible refine (put_no d1 g gs base n tk (i + 1) (index + 1) t (b.extract 112 224) S _ (HS.out.next F1.out.size) HK1.out HO1.out HI1.out HX1.out HT.out HB1.out E2.out).mono ?_); rintro e w1 ⟨rfl, hk, hf⟩)
        refine ⟨rfl, ?_⟩
        exact ⟨(if_neg E2.out).symm, hk, F1.out.trans hf⟩
  have E2 := Aside0.mk e2
  rw [then_some e2]
  have HO2 := Aside0.mk (ok_put (p := base + (i + 1)) (index := index + 1) (t := t) (b := b.extract 112 224) HO1.out (by have := HN.out; omega))
  clear e2
  generalize hd2 : (putS (base + (i + 1)) (index + 1) t (b.extract 112 224) d1).2 = d2 at *
  have HD2 := Aside0.mk hd2
  clear hd2
  rw [show syS d2 = (syncE d2, syncD d2) from rfl]
  go_enter Try.func61, Try.ntmps61
  go_upto_region 1 with (fail)
  go_loopw [11] (fun v wr => (v = .int .i64 0 ∧ wr = w) ∨ (v = .int .i64 1 ∧ Aside0 (SK wr S gs g base n tk d1) ∧ Aside0 (FS S w wr)) ∨ (v = .int .i64 2 ∧ Aside0 (SK wr S gs g base n tk d2) ∧ Aside0 (FS S w wr))) (fun v _ => 2 - (intOf v).toNat)
  case atStart => exact .inl ⟨rfl, rfl⟩
  case round =>
    rcases hrel with ⟨rfl, rfl⟩ | ⟨rfl, HK1, F1⟩ | ⟨rfl, HK2, F2⟩
    · go_wp2_with (go_at_call 62; (with_reducible refine (put_ok d g gs base n tk i index t (b.extract 0 112) S _ HS.out HK.out HO.out HI.out HX.out HT.out HB0.out E1.out).mono ?_); rintro e w1 ⟨rfl, hk, hf⟩; rw [HD1.out] at hk; have HK1 := Aside0.mk hk; have F1 := Aside0.mk hf; clear hk hf)
      go_roundw
      case rel => exact .inr (.inl ⟨rfl, HK1, F1⟩)
      case measure => simp [intOf]
    · go_wp2_with (go_at_call 62; (with_reducible refine (put_ok d1 g gs base n tk (i + 1) (index + 1) t (b.extract 112 224) S _ (HS.out.next F1.out.size) HK1.out HO1.out HI1.out HX1.out HT.out HB1.out E2.out).mono ?_); rintro e w1 ⟨rfl, hk, hf⟩; rw [HD2.out] at hk; have HK2 := Aside0.mk hk; have F2 := Aside0.mk (F1.out.trans hf); clear hk hf)
      go_roundw
      case rel => exact .inr (.inr ⟨rfl, HK2, F2⟩)
      case measure => simp [intOf]
    · have c0 := HK2.out.c0
      by_cases e3 : syncE d2 = 0
      · have E3 := Aside0.mk e3; clear e3
        go_wp2_with (first | (go_at_call 58; (with_reducible refine (sync_calls d2 g S _ (HS.out.next F2.out.size) HK2.out.dk HO2.out.ok).mono ?_); rintro e w1 ⟨rfl, hk, hf⟩; rw [E3.out]; have HK3 := Aside0.mk (HK2.out.step hf hk); have F3 := Aside0.mk (F2.out.trans hf); clear hk hf) | (go_at_call 63; (with_reducible refine (must_yes _).mono ?_); rintro e w3 ⟨rfl, rfl⟩))
        go_end0
        exact ⟨(if_pos E3.out).symm, HK3.out, F3.out⟩
      · have E3 := Aside0.mk e3; clear e3
        go_wp2_with (first | (go_at_call 58; (with_reducible refine (sync_calls d2 g S _ (HS.out.next F2.out.size) HK2.out.dk HO2.out.ok).mono ?_); rintro e w1 ⟨rfl, hk, hf⟩; have HK3 := Aside0.mk (HK2.out.step hf hk); have F3 := Aside0.mk (F2.out.trans hf); clear hk hf) | (go_at_call 63; (with_reducible refine (must_no _ E3.out _).mono ?_); rintro e w3 ⟨rfl, rfl⟩))
        refine ⟨rfl, ?_⟩
        exact ⟨(if_neg E3.out).symm, HK3.out, F3.out⟩
end Go.Proofs.Ytcelfhoomhmioaa.St
set_option maxRecDepth 8192
namespace Go.Proofs.Ytcelfhoomhmioaa.St
open Go.Proofs.Ytcelfhoomhmioaa.Rgn
open Go Go.RowKit Go.ChangeMaps Go.Proofs.Ytcelfhoomhmioaa.Arr Go.Proofs.Ytcelfhoomhmioaa.Mp Go.Proofs.Ytcelfhoomhmioaa.Ow Go.Proofs.Ytcelfhoomhmioaa.Dk Go.Proofs.YtcelfhoomhmioaaW.PrintWords Go.Proofs.YtcelfhoomhmioaaW.PrintLast Go.Proofs.YtcelfhoomhmioaaW.PrintMore
set_option linter.unusedVariables false
set_option linter.unusedSimpArgs false
theorem unpack_lt (s : ByteArray) : (0 ≤ (X12.unpackF s).1 ∧ (X12.unpackF s).1 < 4294967296) ∧ 0 ≤ (X12.unpackF s).2.1 ∧ (X12.unpackF s).2.1 < 4294967296 := by
  unfold X12.unpackF
  split
  · exact ⟨X12.numB_range _, X12.numB_range _⟩
  · decide
/-- What is read of a sector: the slab, and whether it is one of that index. -/
def sreadF (d : DS) (p index : Int) : Int × Int × ByteArray × Bool :=
  if readE d p ≠ 0 then (0, 0, ⟨#[]⟩, false) else ((X12.unpackF (readS d p)).1, (X12.unpackF (readS d p)).2.1, (X12.unpackF (readS d p)).2.2.1, (X12.unpackF (readS d p)).2.2.2 == 0 && (X12.unpackF (readS d p)).2.1 == index)
abbrev TB7 : TypeId := 88
set_option maxHeartbeats 4000000 in
theorem sread_calls {N : Nat} (d : DS) (g gs : Nat) (base n tk i index : Int) (S : Nat → Prop) (w : World) (h : SK w S gs g base n tk d) (ho : OkN N d) (hi : (0 ≤ base ∧ base ≤ 1000) ∧ 0 ≤ i ∧ i ≤ 1000) :
    Calls Try.prog 37 #[.pointer (some ⟨gs, 0, none⟩), .int .i64 i, .int .i64 index] w fun x w' => x = .returned (.tuple #[.agg #[.int .u32 (sreadF d (base + i) index).1, .int .u32 (sreadF d (base + i) index).2.1, .string (sreadF d (base + i) index).2.2.1], .bool (sreadF d (base + i) index).2.2.2]) ∧ Below w.heap.size w w' := by
  have HK := Aside0.mk h; have HO := Aside0.mk ho
  have HW := Aside0.mk (show wrap64 (base + i) = base + i by unfold wrap64; omega)
  clear h ho hi
  have HA := Aside0.mk (heap_alloc_new w (.cells #[.int .u32 0, .int .u32 0, .string ⟨#[]⟩] TB7))
  have HB := Aside0.mk ((Below.refl w.heap.size w).alloc (Nat.le_refl _) (.cells #[.int .u32 0, .int .u32 0, .string ⟨#[]⟩] TB7))
  have HKA := Aside0.mk (HK.out.below HB.out)
  obtain ⟨W, hW⟩ : ∃ W, W = w.alloc (.cells #[.int .u32 0, .int .u32 0, .string ⟨#[]⟩] TB7) := ⟨_, rfl⟩
  go_enter Try.func37, Try.ntmps37
  go_upto_region 1 with (fail)
  rw [← hW] at HA HB HKA ⊢
  clear hW
  have HK1 := Aside0.mk HKA.out.drew; have HB1 := Aside0.mk HB.out.drew
  have HT1 := Aside0.mk (show W.drew.heap[w.heap.size]? = some (.cells #[.int .u32 0, .int .u32 0, .string ⟨#[]⟩] TB7 (0, 0)) from HA.out)
  have c0 := HK1.out.c0; have c1 := HK1.out.c1
  clear HA HB HKA
  refine start_ (n := 16) (S := fun w' => w'.cell? ⟨gs, 0, none⟩ = some (.pointer (some ⟨g, 0, none⟩)) ∧ w'.cell? ⟨gs, 1, none⟩ = some (.int .i64 base)) (ds := []) #[false, false, false, false, false, false, false, false, false, false, false, false, false, false, false, false] (by kernel_rfl) rfl rfl ⟨c0, c1⟩ (fun hHeld => ?_)
  refine rgp 0 11 ?_
  refine rgp 1 12 ?_
  refine rgp 2 13 ?_
  refine rgp 4 15 ?_
  refine rgp 5 16 ?_
  refine rgp 6 17 ?_
  refine rgp 8 19 ?_
  refine rgt 3 14 hHeld ?_
  refine rgt 7 18 hHeld ?_
  refine rgp 9 20 ?_
  refine one_ (i := 10) (N := some 21) #[true, true, true, true, true, true, true, true, true, true, true, false, false, false, false, false] rfl rfl (by kernel_rfl) (by decide) (fun K hK => ?_)
  generalize W.drew = X0_ at *
  refine goes_ Try.func34 (by kernel_rfl) rfl #[.pointer (some ⟨g, 0, none⟩), .int .i64 (wrap64 (base + i))] (by rfl) rfl rfl (by (try simp only [List.map_toArray, List.map_cons, List.map_nil]); first | done | rfl) ?_
  rw [HW.out]
  refine (read_calls d g (base + i) S _ HK1.out.dk HO.out.ok).mono ?_
  rintro e v1_ ⟨rfl, hb1⟩
  refine ⟨_, rfl, ?_⟩
  have HK2 := Aside0.mk (HK1.out.below hb1); have HB2 := Aside0.mk (Arr.below_trans HB1.out hb1)
  have HT2 := Aside0.mk ((hb1.block w.heap.size (blk_lt HT1.out)).trans HT1.out)
  clear hb1 HK1 HB1 HT1
  refine hK _ _ ⟨HK2.out.c0, HK2.out.c1⟩ (fun hHeld => ?_)
  clear hK K
  refine norm_ (a' := ?_) ?_ ?_
  rotate_left
  · show Act.put _ (some 21) _ = _
    simp only [Act.put, List.setIfInBounds_toArray, List.set_cons_zero, List.set_cons_succ, i64_w, i32_w]
    rfl
  refine rgp 11 10 ?_
  refine rgp 12 22 ?_
  refine rgp 13 23 ?_
  refine rgp 14 8 ?_
  refine rgp 15 9 ?_
  refine done_ (by kernel_rfl) ?_
  clear hHeld c0 c1
  obtain ⟨z0, z1, z2⟩ : v1_.cell? ⟨w.heap.size, 0, none⟩ = some (.int .u32 0) ∧ v1_.cell? ⟨w.heap.size, 1, none⟩ = some (.int .u32 0) ∧ v1_.cell? ⟨w.heap.size, 2, none⟩ = some (.string ⟨#[]⟩) := ⟨blk_cell HT2.out 0, blk_cell HT2.out 1, blk_cell HT2.out 2⟩
  have y0 := blk_frozen HT2.out 0; have y1 := blk_frozen HT2.out 1; have y2 := blk_frozen HT2.out 2
  by_cases he : readE d (base + i) = 0
  · obtain ⟨ue, ui, ub, ur, hu⟩ : ∃ a b c e, X12.unpackF (readS d (base + i)) = (a, b, c, e) := ⟨_, _, _, _, rfl⟩
    have hl := unpack_lt (readS d (base + i))
    rw [hu] at hl
    simp only at hl
    have HU := Aside0.mk hu
    have hcv : wrap64 ui = ui := by unfold wrap64; omega
    clear hl
    by_cases a1 : ur = 0
    rotate_left
    · have HF := Aside0.mk (show sreadF d (base + i) index = (ue, ui, ub, false) by unfold sreadF; rw [if_neg (by simp [he]), hu]; simp [a1])
      have b1 : (ur == 0) = false := by simpa using a1
      have b1n : (ur != 0) = true := by simpa using a1
      clear a1 hu
      go_wp2_with (go_at_call 48; (with_reducible refine (X12.unpack_calls (readS d (base + i)) _).mono ?_); rintro e w3 ⟨rfl, hb3⟩; rw [HU.out]; have HT3 := Aside0.mk ((hb3.block w.heap.size (blk_lt HT2.out)).trans HT2.out); have HB3 := Aside0.mk (Arr.below_trans HB2.out hb3); clear hb3 z0 z1 z2 y0 y1 y2; obtain ⟨z0, z1, z2⟩ : w3.cell? ⟨w.heap.size, 0, none⟩ = some (.int .u32 0) ∧ w3.cell? ⟨w.heap.size, 1, none⟩ = some (.int .u32 0) ∧ w3.cell? ⟨w.heap.size, 2, none⟩ = some (.string ⟨#[]⟩) := ⟨blk_cell HT3.out 0, blk_cell HT3.out 1, blk_cell HT3.out 2⟩; have y0 := blk_frozen HT3.out 0; have y1 := blk_frozen HT3.out 1; have y2 := blk_frozen HT3.out 2)
      have b2 := set_blk (set_blk (set_blk (set_blk (set_blk (set_blk HT3.out 0 (.int .u32 ue)) 1 (.int .u32 ui)) 2 (.string ub)) 0 (.int .u32 ue)) 1 (.int .u32 ui)) 2 (.string ub)
      refine bodyPost_ret (results_ct rfl _ _ _ _ _ _ _ rfl b2 Try.underlying88 rfl rfl) rfl ⟨?_, ?_⟩
      · rw [HF.out]; rfl
      · exact (((((HB3.out.setCell (by simp) _).setCell (by simp) _).setCell (by simp) _).setCell (by simp) _).setCell (by simp) _).setCell (by simp) _
    by_cases a2 : ui = index
    · have HF := Aside0.mk (show sreadF d (base + i) index = (ue, ui, ub, true) by unfold sreadF; rw [if_neg (by simp [he]), hu]; simp [a1, a2])
      have b1 : (ur == 0) = true := by simpa using a1
      have b1n : (ur != 0) = false := by simpa using a1
      have b2 : (ui == index) = true := by simpa using a2
      clear a1 hu a2
      go_wp2_with (go_at_call 48; (with_reducible refine (X12.unpack_calls (readS d (base + i)) _).mono ?_); rintro e w3 ⟨rfl, hb3⟩; rw [HU.out]; have HT3 := Aside0.mk ((hb3.block w.heap.size (blk_lt HT2.out)).trans HT2.out); have HB3 := Aside0.mk (Arr.below_trans HB2.out hb3); clear hb3 z0 z1 z2 y0 y1 y2; obtain ⟨z0, z1, z2⟩ : w3.cell? ⟨w.heap.size, 0, none⟩ = some (.int .u32 0) ∧ w3.cell? ⟨w.heap.size, 1, none⟩ = some (.int .u32 0) ∧ w3.cell? ⟨w.heap.size, 2, none⟩ = some (.string ⟨#[]⟩) := ⟨blk_cell HT3.out 0, blk_cell HT3.out 1, blk_cell HT3.out 2⟩; have y0 := blk_frozen HT3.out 0; have y1 := blk_frozen HT3.out 1; have y2 := blk_frozen HT3.out 2)
      have b2 := set_blk (set_blk (set_blk (set_blk (set_blk (set_blk HT3.out 0 (.int .u32 ue)) 1 (.int .u32 ui)) 2 (.string ub)) 0 (.int .u32 ue)) 1 (.int .u32 ui)) 2 (.string ub)
      refine bodyPost_ret (results_ct rfl _ _ _ _ _ _ _ rfl b2 Try.underlying88 rfl rfl) rfl ⟨?_, ?_⟩
      · rw [HF.out]; rfl
      · exact (((((HB3.out.setCell (by simp) _).setCell (by simp) _).setCell (by simp) _).setCell (by simp) _).setCell (by simp) _).setCell (by simp) _
    · have HF := Aside0.mk (show sreadF d (base + i) index = (ue, ui, ub, false) by unfold sreadF; rw [if_neg (by simp [he]), hu]; simp [a1, a2])
      have b1 : (ur == 0) = true := by simpa using a1
      have b1n : (ur != 0) = false := by simpa using a1
      have b2 : (ui == index) = false := by simpa using a2
      clear a1 hu a2
      go_wp2_with (go_at_call 48; (with_reducible refine (X12.unpack_calls (readS d (base + i)) _).mono ?_); rintro e w3 ⟨rfl, hb3⟩; rw [HU.out]; have HT3 := Aside0.mk ((hb3.block w.heap.size (blk_lt HT2.out)).trans HT2.out); have HB3 := Aside0.mk (Arr.below_trans HB2.out hb3); clear hb3 z0 z1 z2 y0 y1 y2; obtain ⟨z0, z1, z2⟩ : w3.cell? ⟨w.heap.size, 0, none⟩ = some (.int .u32 0) ∧ w3.cell? ⟨w.heap.size, 1, none⟩ = some (.int .u32 0) ∧ w3.cell? ⟨w.heap.size, 2, none⟩ = some (.string ⟨#[]⟩) := ⟨blk_cell HT3.out 0, blk_cell HT3.out 1, blk_cell HT3.out 2⟩; have y0 := blk_frozen HT3.out 0; have y1 := blk_frozen HT3.out 1; have y2 := blk_frozen HT3.out 2)
      have b2 := set_blk (set_blk (set_blk (set_blk (set_blk (set_blk HT3.out 0 (.int .u32 ue)) 1 (.int .u32 ui)) 2 (.string ub)) 0 (.int .u32 ue)) 1 (.int .u32 ui)) 2 (.string ub)
      refine bodyPost_ret (results_ct rfl _ _ _ _ _ _ _ rfl b2 Try.underlying88 rfl rfl) rfl ⟨?_, ?_⟩
      · rw [HF.out]; rfl
      · exact (((((HB3.out.setCell (by simp) _).setCell (by simp) _).setCell (by simp) _).setCell (by simp) _).setCell (by simp) _).setCell (by simp) _
  · have e0 : (readE d (base + i) == 0) = false := by simpa using he
    have e1 : (readE d (base + i) != 0) = true := by simpa using he
    have HF := Aside0.mk (show sreadF d (base + i) index = (0, 0, ⟨#[]⟩, false) by unfold sreadF; rw [if_pos he])
    clear he
    go_wp2
    have b2 := set_blk (set_blk (set_blk HT2.out 0 (.int .u32 0)) 1 (.int .u32 0)) 2 (.string ⟨#[]⟩)
    refine bodyPost_ret (results_ct rfl _ _ _ _ _ _ _ rfl b2 Try.underlying88 rfl rfl) rfl ⟨?_, ?_⟩
    · rw [HF.out]; rfl
    · exact ((HB2.out.setCell (by simp) _).setCell (by simp) _).setCell (by simp) _
end Go.Proofs.Ytcelfhoomhmioaa.St
set_option maxRecDepth 8192
namespace Go.Proofs.Ytcelfhoomhmioaa.St
open Go Go.RowKit Go.ChangeMaps Go.Proofs.Ytcelfhoomhmioaa.Arr Go.Proofs.Ytcelfhoomhmioaa.Mp Go.Proofs.Ytcelfhoomhmioaa.Ow Go.Proofs.Ytcelfhoomhmioaa.Dk Go.Proofs.YtcelfhoomhmioaaW.PrintWords Go.Proofs.YtcelfhoomhmioaaW.PrintLast Go.Proofs.YtcelfhoomhmioaaW.PrintMore
set_option linter.unusedVariables false
set_option linter.unusedSimpArgs false
attribute [local go_sem] max2_int min2_int max_two min_two
def secN (n : Int) : Nat := (3 + 2 * n).toNat
theorem sectors_calls (n : Int) (hn : 0 ≤ n ∧ n ≤ 1000) (w : World) : Calls Try.prog 43 #[.int .i64 n] w fun e w' => e = .returned (.int .i64 (secN n : Int)) ∧ Below w.heap.size w w' := by
  refine (X12.store_Sectors.calls n (secN n : Int) w ?_).mono fun e w' ⟨he, hd⟩ => ⟨he, hd.below⟩
  unfold X12.store_Sectors.f secN
  rw [if_neg (by omega)]
  congr 1
  unfold wrap64
  omega
end Go.Proofs.Ytcelfhoomhmioaa.St
set_option maxRecDepth 8192
namespace Go.Proofs.Ytcelfhoomhmioaa.St
open Go Go.RowKit Go.ChangeMaps Go.Proofs.Ytcelfhoomhmioaa.Arr Go.Proofs.Ytcelfhoomhmioaa.Mp Go.Proofs.Ytcelfhoomhmioaa.Ow Go.Proofs.Ytcelfhoomhmioaa.Dk Go.Proofs.YtcelfhoomhmioaaW.PrintWords Go.Proofs.YtcelfhoomhmioaaW.PrintLast Go.Proofs.YtcelfhoomhmioaaW.PrintMore
set_option linter.unusedVariables false
set_option linter.unusedSimpArgs false
theorem bt_range (s : ByteArray) (i : Nat) : 0 ≤ bt s i ∧ bt s i < 256 := by
  unfold bt
  split
  · rename_i h
    have h2 : i < s.size := h
    show 0 ≤ (((s[i]'h2).toNat : Nat) : Int) ∧ (((s[i]'h2).toNat : Nat) : Int) < 256
    have := UInt8.toNat_lt (s[i]'h2)
    omega
  · omega
end Go.Proofs.Ytcelfhoomhmioaa.St
set_option maxRecDepth 8192
namespace Go.Proofs.Ytcelfhoomhmioaa.X12
open Go Go.RowKit Go.Proofs.YtcelfhoomhmioaaW.PrintWords Go.Proofs.Ytcelfhoomhmioaa.Page Go.Proofs.Ytcelfhoomhmioaa.Arr
set_option linter.unusedVariables false
set_option linter.unusedSimpArgs false
theorem right_eq (a : Int) (b : ByteArray) : page_Right.f a b = some (decide (0 ≤ a ∧ a ≤ 2147483647 ∧ b.size = 220)) := by
  unfold page_Right.f
  by_cases h0 : a ≥ 0
  · by_cases h1 : a ≤ 2147483647
    · rw [if_pos h0, if_pos h1]
      congr 1
      rw [Bool.eq_iff_iff]; simp only [beq_iff_eq, decide_eq_true_eq]; omega
    · rw [if_pos h0, if_neg h1]; congr 1; symm; simp; omega
  · rw [if_neg h0]; congr 1; symm; simp; omega
theorem or_join (x y : Int) (h0 : 0 ≤ x) (h1 : x < 16777216) (h2 : 0 ≤ y) (h3 : y < 256) : bits .or .i64 (x * 256) y = x * 256 + y :=
  bits_join .i64 40 (by decide) (fun n a b => by rw [IntKind.wrap_i64]; omega) 8 (x * 256) y (by omega) (by omega) (by omega) h2 (by omega) (by omega)
/-- Four bytes as a number, the highest first. -/
def punF (s : ByteArray) : Int × ByteArray × Int :=
  if s.size = 224 ∧ numB s ≤ 2147483647 then (numB s, s.extract 4 s.size, 0) else (0, ⟨#[]⟩, 3)
theorem ptail_size (s : ByteArray) (h : s.size = 224) : (s.extract 4 s.size).size = 220 := by rw [ByteArray.size_extract]; omega
theorem punpack_eq (k : Nat) (s : ByteArray) : page_Unpack.f (k + 5) s = some (punF s) := by
  unfold page_Unpack.f punF
  by_cases hs : s.size = 224
  · rw [if_pos (by omega), if_pos (by omega)]
    have a := bt_range s 0; have b := bt_range s 1; have c := bt_range s 2; have d := bt_range s 3
    have hn := numB_range s
    have ht := ptail_size s hs
    have e0 : bits .or .i64 (wrap64 (0 * 256)) (wrap64 (bt s 0)) = bt s 0 := by
      rw [w64 (by omega) (by omega), w64 (by omega) (by omega), or_join 0 _ (by omega) (by omega) (by omega) (by omega)]; omega
    have e1 : bits .or .i64 (wrap64 (bt s 0 * 256)) (wrap64 (bt s 1)) = bt s 0 * 256 + bt s 1 := by
      rw [w64 (by omega) (by omega), w64 (by omega) (by omega), or_join _ _ (by omega) (by omega) (by omega) (by omega)]
    have e2 : bits .or .i64 (wrap64 ((bt s 0 * 256 + bt s 1) * 256)) (wrap64 (bt s 2)) = (bt s 0 * 256 + bt s 1) * 256 + bt s 2 := by
      rw [w64 (by omega) (by omega), w64 (by omega) (by omega), or_join _ _ (by omega) (by omega) (by omega) (by omega)]
    have e3 : bits .or .i64 (wrap64 (((bt s 0 * 256 + bt s 1) * 256 + bt s 2) * 256)) (wrap64 (bt s 3)) = numB s := by
      rw [w64 (by omega) (by omega), w64 (by omega) (by omega), or_join _ _ (by omega) (by omega) (by omega) (by omega)]; rfl
    have i1 : wrap64 (0 + 1) = 1 := by unfold wrap64; omega
    have i2 : wrap64 (1 + 1) = 2 := by unfold wrap64; omega
    have i3 : wrap64 (2 + 1) = 3 := by unfold wrap64; omega
    have i4 : wrap64 (3 + 1) = 4 := by unfold wrap64; omega
    have fin : page_Unpack.l0 (k + 1) s 4 (numB s) (s.extract 4 s.size) = some (if s.size = 224 ∧ numB s ≤ 2147483647 then (numB s, s.extract 4 s.size, 0) else (0, ⟨#[]⟩, 3)) := by
      rw [page_Unpack.l0, if_neg (by omega), right_eq]
      simp only [Option.bind_some]
      by_cases h : numB s ≤ 2147483647
      · rw [if_pos (by simp only [decide_eq_true_eq]; omega), if_pos (by omega)]
      · rw [if_neg (by simp only [decide_eq_true_eq]; omega), if_neg (by omega)]
    rw [page_Unpack.l0, if_pos (by omega), if_pos (by omega), if_pos (by omega), i1, e0]
    rw [page_Unpack.l0, if_pos (by omega), if_pos (by omega), if_pos (by omega), i2, e1]
    rw [page_Unpack.l0, if_pos (by omega), if_pos (by omega), if_pos (by omega), i3, e2]
    rw [page_Unpack.l0, if_pos (by omega), if_pos (by omega), if_pos (by omega), i4, e3]
    exact fin
  · rw [if_neg (by omega), if_neg (by omega)]
/-- Four bytes of a number. -/
def four (a : Int) : ByteArray := ⟨#[be a 0, be a 1, be a 2, be a 3]⟩
theorem pack_cat (p0 : Int) (p1 : ByteArray) (h : p1.size = 220) : splice (laid (noughts 224) p0 4) 4 p1 = four p0 ++ p1 := by
  apply ByteArray.ext
  apply Array.toList_inj.1
  have e : (noughts 224).data.toList = 0 :: 0 :: 0 :: 0 :: List.replicate 220 (0 : UInt8) := by rfl
  have l : (laid (noughts 224) p0 4).data.toList = be p0 0 :: be p0 1 :: be p0 2 :: be p0 3 :: List.replicate 220 (0 : UInt8) := by
    simp only [laid, setB, Array.toList_setIfInBounds, e, List.set_cons_zero, List.set_cons_succ]
  have r : (four p0 ++ p1).data.toList = [be p0 0, be p0 1, be p0 2, be p0 3] ++ p1.data.toList := by rw [ByteArray.data_append, Array.toList_append]; rfl
  rw [r]
  simp only [splice, l, h]
  have z : List.drop (4 + 220) (be p0 0 :: be p0 1 :: be p0 2 :: be p0 3 :: List.replicate 220 (0 : UInt8)) = [] := List.drop_of_length_le (by simp only [List.length_cons, List.length_replicate]; omega)
  rw [z, List.append_nil]
  rfl
theorem cat_list (p0 : Int) (p1 : ByteArray) : (four p0 ++ p1).data.toList = be p0 0 :: be p0 1 :: be p0 2 :: be p0 3 :: p1.data.toList := by rw [ByteArray.data_append, Array.toList_append]; rfl
theorem bt_get (s : ByteArray) (i : Nat) (b : UInt8) (h : s.data.toList[i]? = some b) : bt s (i : Int) = (b.toNat : Int) := by
  have hl : i < s.data.toList.length := (List.getElem?_eq_some_iff.1 h).1
  have hs : i < s.size := by simpa using hl
  unfold bt
  rw [dif_pos (by simpa using hs)]
  have e := (List.getElem?_eq_some_iff.1 h).2
  rw [← e]
  simp [ByteArray.getElem_eq_getElem_data]
theorem be_nat (a : Int) (i : Nat) : ((be a i).toNat : Int) = (a / 2 ^ (24 - 8 * i)) % 256 := by
  unfold be
  rw [UInt8.toNat_ofNat']
  have : 0 ≤ (a / 2 ^ (24 - 8 * i)) % 256 ∧ (a / 2 ^ (24 - 8 * i)) % 256 < 256 := by omega
  omega
theorem numB_cat (p0 : Int) (p1 : ByteArray) (h0 : 0 ≤ p0) (h1 : p0 ≤ 2147483647) : numB (four p0 ++ p1) = p0 := by
  have l := cat_list p0 p1
  have a := bt_get _ 0 _ (by rw [l]; rfl)
  have b := bt_get _ 1 _ (by rw [l]; rfl)
  have c := bt_get _ 2 _ (by rw [l]; rfl)
  have d := bt_get _ 3 _ (by rw [l]; rfl)
  rw [be_nat] at a b c d
  unfold numB
  have a' : bt (four p0 ++ p1) 0 = p0 / 16777216 % 256 := a
  have b' : bt (four p0 ++ p1) 1 = p0 / 65536 % 256 := b
  have c' : bt (four p0 ++ p1) 2 = p0 / 256 % 256 := c
  have d' : bt (four p0 ++ p1) 3 = p0 / 1 % 256 := d
  rw [a', b', c', d']
  omega
theorem unpack_cat (p0 : Int) (p1 : ByteArray) (h : p1.size = 220) (h0 : 0 ≤ p0) (h1 : p0 ≤ 2147483647) : punF (four p0 ++ p1) = (p0, p1, 0) := by
  have sz : (four p0 ++ p1).size = 224 := by rw [ByteArray.size_append, h]; rfl
  have t : (four p0 ++ p1).extract 4 (four p0 ++ p1).size = p1 := by
    apply ByteArray.ext
    apply Array.toList_inj.1
    have e : ∀ (s : ByteArray) (a b : Nat), (s.extract a b).data.toList = (s.data.toList.drop a).take (b - a) := fun s a b => by simp
    rw [e, cat_list, sz]
    have q : p1.data.toList.length = 220 := by simpa using h
    simp only [List.drop_succ_cons, List.drop_zero]
    exact List.take_of_length_le (by omega)
  unfold punF
  rw [numB_cat p0 p1 h0 h1, if_pos ⟨sz, h1⟩, t]
theorem punpack_calls (s : ByteArray) (w : World) : Calls Try.prog 38 #[.string s] w fun e w' => e = .returned (.tuple #[.agg #[.int .i64 (punF s).1, .string (punF s).2.1], .int .i64 (punF s).2.2]) ∧ Below w.heap.size w w' :=
  page_Unpack.calls 5 s _ _ _ w (punpack_eq 0 s)
theorem pun_pack {a : Int} {dta : ByteArray} (h : (Page.packF a dta).2 = 0) : punF (Page.packF a dta).1 = (a, dta, 0) := by
  unfold Page.packF at h ⊢
  split
  · rename_i c
    simp only
    rw [pack_cat a dta c.2.2]
    exact unpack_cat a dta c.2.2 c.1 c.2.1
  · rename_i c
    rw [if_neg c] at h
    cases h
end Go.Proofs.Ytcelfhoomhmioaa.X12
set_option maxRecDepth 8192
namespace Go.Proofs.Ytcelfhoomhmioaa.Opens
open Go Go.RowKit Go.ChangeShapes Go.WideShapes Go.Deep Go.Proofs.YtcelfhoomhmioaaW.PrintWords
set_option linter.unusedVariables false
variable {P : Program}
/-- Whatever reads as data at type t is a value of kind d that meets Wf. -/
def Opens (P : Program) (t : TypeId) {α : Type} (d : Kd α) (Wf : α → Prop) : Prop :=
  ∀ {H : Type} {enc : TypeId × Value → H} {w : World} {fuel : Nat} {cs : List Value} {x : DataW H × List MemPlace},
    DataW.trod enc P w 0 (fun _ => true) true fuel t cs = some x → (∀ n ∈ DataW.weights P t x.1, n ≤ reachBytes) → ∃ v : α, d.K w v cs ∧ Wf v
theorem opens_int {t : TypeId} {k : IntKind} (ht : P.underlying t = some (.int k)) : Opens P t (Kd.int k) (fun n => (Lit.int k n).wf = true) := by
  intro H enc w fuel cs x h _
  obtain ⟨n, rfl, _, hw⟩ := DataW.trod_int ht h
  exact ⟨n, rfl, hw⟩
theorem opens_string {t : TypeId} (ht : P.underlying t = some .string) : Opens P t Kd.string (fun s => s.size ≤ 140737488351232) := by
  intro H enc w fuel cs x h hw
  obtain ⟨s, rfl, rfl, _⟩ := DataW.trod_string ht h
  refine ⟨s, rfl, ?_⟩
  have := hw s.data.toList.length (by simp [DataW.weights])
  simpa [reachBytes] using this
theorem weightsAll_mem {H : Type} (e : TypeId) : ∀ (l : List (DataW H)) (d : DataW H), d ∈ l → ∀ n ∈ d.weights P e, n ∈ DataW.weightsAll P e l
  | [], d, h, _, _ => by cases h
  | a :: r, d, h, n, hn => by
    simp only [DataW.weightsAll, List.mem_append]
    rcases List.mem_cons.1 h with rfl | h
    · exact .inl hn
    · exact .inr (weightsAll_mem e r d h n hn)
theorem list_of {α : Type} : ∀ (n : Nat) (Q : Nat → α → Prop), (∀ i, i < n → ∃ v, Q i v) → ∃ l : List α, l.length = n ∧ ∀ i v, l[i]? = some v → Q i v
  | 0, _, _ => ⟨[], rfl, fun i v h => by simp at h⟩
  | n + 1, Q, h => by
    obtain ⟨l, hl, hq⟩ := list_of n Q (fun i hi => h i (by omega))
    obtain ⟨v, hv⟩ := h n (by omega)
    refine ⟨l ++ [v], by simp [hl], fun i u hi => ?_⟩
    rw [List.getElem?_append] at hi
    split at hi
    · exact hq i u hi
    · have : i - l.length = 0 := by
        by_cases e : i - l.length = 0
        · exact e
        · rw [List.getElem?_eq_none (by simp; omega)] at hi; cases hi
      rw [this] at hi
      simp only [List.getElem?_cons_zero, Option.some.injEq] at hi
      subst hi
      obtain rfl : i = n := by omega
      exact hv
theorem opens_slice {t e : TypeId} {α : Type} {d : Kd α} {Wf : α → Prop} (ht : P.underlying t = some (.slice e)) (hsz : P.cellsOf e = d.sz) (O : Opens P e d Wf) :
    Opens P t (Kd.slice e d) (fun l => l.length ≤ maxLen ∧ l.length * P.bytesOf e ≤ 140737488351232 ∧ ∀ x ∈ l, Wf x) := by
  intro H enc w fuel cs x h hw
  rcases open_slice ht h with ⟨rfl, rfl⟩ | ⟨a, len, cap, m, n, D, Pl, rfl, _, hl, hm, hmm, rfl, hx⟩
  · exact ⟨[], ⟨none, 0, rfl, Nat.le_refl _, rfl, by simp, fun h => absurd h (by simp)⟩, by simp, by simp, by simp⟩
  · simp only [if_true] at hmm
    subst hmm
    have each : ∀ i, i < len → ∃ v : α, (∃ c : List Value, c.length = d.sz ∧ d.K w v c ∧ ∀ j u, c[j]? = some u → w.cell? (a.add (i * d.sz + j)) = some u) ∧ Wf v := by
      intro i hi
      obtain ⟨cs', hc, ht'⟩ := hx i (by omega)
      have hwi : ∀ n ∈ DataW.weights P e (D i), n ≤ reachBytes := by
        intro q hq
        refine hw q ?_
        simp only [DataW.weights, ht, List.mem_cons, List.mem_append]
        exact .inr (.inl (weightsAll_mem e _ (D i) (List.mem_map.2 ⟨i, List.mem_range.2 hi, rfl⟩) q hq))
      obtain ⟨v, hk, hf⟩ := O ht' hwi
      obtain ⟨_, hcl, hat⟩ := World.cells?_some hc
      refine ⟨v, ⟨cs', by rw [hcl, hsz], hk, fun j u hj => ?_⟩, hf⟩
      have hjl : j < P.cellsOf e := by rw [← hcl]; exact (List.getElem?_eq_some_iff.1 hj).1
      have h1 := hat j hjl
      rw [hj] at h1
      rw [← hsz, ← h1]
      rw [Addr.add_add]
    obtain ⟨l, hll, hlq⟩ := list_of len _ each
    refine ⟨l, ⟨some a, m, by rw [hll], by omega, hll.symm ▸ rfl, by unfold maxLen at hm; omega, fun _ => ⟨a, rfl, fun j p hj => (hlq j p hj).1⟩⟩, by unfold maxLen at *; omega, ?_, fun v hv => ?_⟩
    · have h1 := hw ((len + (m - len)) * P.bytesOf e) (by simp [DataW.weights, ht])
      have h2 : l.length * P.bytesOf e ≤ (len + (m - len)) * P.bytesOf e := Nat.mul_le_mul_right _ (by omega)
      unfold reachBytes at h1
      omega
    · obtain ⟨i, hi⟩ := List.getElem?_of_mem hv
      exact (hlq i v hi).2
theorem opens_iso {t : TypeId} {α β : Type} {d : Kd α} {Wf : α → Prop} (O : Opens P t d Wf) (f : β → α) (g : α → β) (hfg : ∀ a, f (g a) = a) : Opens P t (Kd.iso d f) (fun b => Wf (f b)) := by
  intro H enc w fuel cs x h hw
  obtain ⟨v, hk, hf⟩ := O h hw
  refine ⟨g v, ?_, ?_⟩
  · show d.K w (f (g v)) cs
    rw [hfg]; exact hk
  · show Wf (f (g v))
    rw [hfg]; exact hf
/-- Fields, one behind the other. -/
def OpensF (P : Program) (ts : List TypeId) {α : Type} (d : Kd α) (Wf : α → Prop) : Prop :=
  ∀ {H : Type} {enc : TypeId × Value → H} {w : World} {fuel : Nat} {css : List (List Value)} {xs : List (DataW H × List MemPlace)},
    css.length = ts.length → xs.length = ts.length → (∀ (i : Nat) (t : TypeId) (cs : List Value) (x : DataW H × List MemPlace), ts[i]? = some t → css[i]? = some cs → xs[i]? = some x → DataW.trod enc P w 0 (fun _ => true) true fuel t cs = some x ∧ ∀ n ∈ DataW.weights P t x.1, n ≤ reachBytes) →
    ∃ v : α, d.K w v css.flatten ∧ Wf v
theorem opensF_one {t : TypeId} {α : Type} {d : Kd α} {Wf : α → Prop} (O : Opens P t d Wf) : OpensF P [t] d Wf := by
  intro H enc w fuel css xs hc hx h
  match css, xs, hc, hx with
  | [cs], [x], _, _ =>
    obtain ⟨h1, h2⟩ := h 0 t cs x rfl rfl rfl
    obtain ⟨v, hk, hf⟩ := O h1 h2
    exact ⟨v, by simpa using hk, hf⟩
theorem opensF_cons {t : TypeId} {ts : List TypeId} {α β : Type} {d : Kd α} {d' : Kd β} {Wf : α → Prop} {Wf' : β → Prop} (O : Opens P t d Wf) (O' : OpensF P ts d' Wf') :
    OpensF P (t :: ts) (Kd.pair d d') (fun x => Wf x.1 ∧ Wf' x.2) := by
  intro H enc w fuel css xs hc hx h
  match css, xs, hc, hx with
  | cs :: css, x :: xs, hc, hx =>
    obtain ⟨h1, h2⟩ := h 0 t cs x rfl rfl rfl
    obtain ⟨v, hk, hf⟩ := O h1 h2
    obtain ⟨v', hk', hf'⟩ := O' (css := css) (xs := xs) (by simpa using hc) (by simpa using hx) (fun i t' cs' x' a b c => h (i + 1) t' cs' x' (by simpa using a) (by simpa using b) (by simpa using c))
    exact ⟨(v, v'), ⟨cs, css.flatten, by simp, hk, hk'⟩, hf, hf'⟩
/-- Fields' places: each begins where the one ahead of it ends. -/
def placed (P : Program) : Nat → List Field → Bool
  | _, [] => true
  | o, f :: fs => f.offset == o && placed P (o + P.cellsOf f.type) fs
def total (P : Program) : List Field → Nat
  | [] => 0
  | f :: fs => P.cellsOf f.type + total P fs
theorem cut_flatten (P : Program) : ∀ (fs : List Field) (o : Nat) (cs : List Value), placed P o fs = true → cs.length = o + total P fs → (fs.map fun f => (cs.drop f.offset).take (P.cellsOf f.type)).flatten = cs.drop o
  | [], o, cs, _, hl => by simp only [List.map_nil, List.flatten_nil, total, Nat.add_zero] at *; rw [← hl, List.drop_length]
  | f :: fs, o, cs, hp, hl => by
    simp only [placed, Bool.and_eq_true, beq_iff_eq] at hp
    simp only [total] at hl
    simp only [List.map_cons, List.flatten_cons, hp.1]
    rw [cut_flatten P fs (o + P.cellsOf f.type) cs hp.2 (by omega), ← List.drop_drop, List.take_append_drop]
theorem opens_struct {t : TypeId} {fs : Array Field} {α : Type} {d : Kd α} {Wf : α → Prop} (ht : P.underlying t = some (.struct fs)) (hp : placed P 0 fs.toList = true) (htot : P.cellsOf t = total P fs.toList)
    (O : OpensF P (fs.toList.map (·.type)) d Wf) : Opens P t d Wf := by
  intro H enc w fuel cs x h hw
  obtain ⟨xs, n, rfl, rfl, hlen, hxl, hf⟩ := DataW.trod_struct ht h
  have hx2 : xs.length = (fs.toList.map (·.type)).length := by simpa using hxl
  obtain ⟨v, hk, hwf⟩ := O (w := w) (fuel := n) (css := fs.toList.map fun f => (cs.drop f.offset).take (P.cellsOf f.type)) (xs := xs) (by simp) hx2 (by
    intro i t' cs' x' ha hb hc
    rw [List.getElem?_map] at ha hb
    cases hfi : fs.toList[i]? with
    | none => rw [hfi] at ha; cases ha
    | some f =>
      rw [hfi] at ha hb
      simp only [Option.map_some, Option.some.injEq] at ha hb
      subst ha; subst hb
      have h1 := hf i f (by simpa using hfi)
      rw [h1]
      refine ⟨hc, fun q hq => hw q ?_⟩
      simp only [DataW.weights, ht]
      exact DataW.weights_mem_each (j := i) (t := f.type) (d := x'.1) (by rw [List.getElem?_map, hfi]; rfl) (by rw [List.getElem?_map, hc]; rfl) q hq)
  rw [cut_flatten P fs.toList 0 cs hp (by rw [hlen, htot]; omega)] at hk
  exact ⟨v, by simpa using hk, hwf⟩
end Go.Proofs.Ytcelfhoomhmioaa.Opens
