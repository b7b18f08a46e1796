import Derived.Shelf.Abstract
import Derived.Laws.IdiomCopy
import Derived.Defers
import Derived.Recover
import Derived.Laws.BitsLemmas
import Derived.Test.YtneilimiijcghaaQWZ0
import Derived.Test.YtneilimiijcghaaQWZ1
import Derived.Test.YtneilimiijcghaaQWZ2
import Derived.Test.YtneilimiijcghaaQWZ3
import Derived.Test.YtneilimiijcghaaQWZ4
import Derived.Test.YtneilimiijcghaaQWZ5
namespace Go.Proofs.Ytneilimiijcghaa.X12
open Go Go.RowKit Go.Proofs.YtneilimiijcghaaW.PrintWords Go.Proofs.Ytneilimiijcghaa.Slab
set_option linter.unusedVariables false
/-- A text's bytes as a list. -/
def bl (s : ByteArray) : List UInt8 := s.data.toList
theorem bl_len (s : ByteArray) : (bl s).length = s.size := by simp [bl]
theorem bl_ext {s t : ByteArray} (h : bl s = bl t) : s = t := ByteArray.ext (Array.toList_inj.1 h)
theorem bl_cut (s : ByteArray) (a b : Nat) : bl (s.extract a b) = ((bl s).drop a).take (b - a) := by simp [bl]
theorem bt_bl (s : ByteArray) (j : Nat) (h : j < s.size) : bt s (j : Int) = (((bl s).getD j 0).toNat : Int) := by
  have h1 : j < (bl s).length := by rw [bl_len]; exact h
  unfold bt
  rw [dif_pos (by simpa using h), List.getD_eq_getElem?_getD, List.getElem?_eq_getElem h1]
  simp [bl, ByteArray.getElem_eq_getElem_data]
theorem w64 {x : Int} (h0 : -9223372036854775808 ≤ x) (h1 : x ≤ 9223372036854775807) : wrap64 x = x := by unfold wrap64; omega
theorem or64 (x y : Int) (h0 : 0 ≤ x) (h1 : x < 16777216) (h2 : 0 ≤ y) (h3 : y < 256) : bits .or .i64 (x * 256) y = x * 256 + y :=
  bits_join .i64 40 (by decide) (fun n a b => by rw [IntKind.wrap_i64]; omega) 8 (x * 256) y (by omega) (by omega) (by omega) h2 (by omega) (by omega)
theorem or32 (x y : Int) (h0 : 0 ≤ x) (h1 : x < 16777216) (h2 : 0 ≤ y) (h3 : y < 256) : bits .or .u32 (x * 256 % 4294967296) (y % 4294967296) = x * 256 + y := by
  rw [show x * 256 % 4294967296 = x * 256 by omega, show y % 4294967296 = y by omega]
  exact bits_join .u32 32 (by decide) (fun n a b => by rw [IntKind.wrap_u32]; omega) 8 (x * 256) y (by omega) (by omega) (by omega) h2 (by omega) (by omega)
/-- Four bytes as a number, the highest first. -/
def numB (s : ByteArray) : Int := ((bt s 0 * 256 + bt s 1) * 256 + bt s 2) * 256 + bt s 3
theorem numB_range (s : ByteArray) : 0 ≤ numB s ∧ numB s < 4294967296 := by
  have a := bt_range s 0; have b := bt_range s 1; have c := bt_range s 2; have d := bt_range s 3
  unfold numB; omega
theorem get_eq (k : Nat) (s : ByteArray) (h : 4 ≤ s.size) : slab_get.f (k + 5) s = some (numB s) := by
  unfold slab_get.f
  have a := bt_range s 0; have b := bt_range s 1; have c := bt_range s 2; have d := bt_range s 3
  have e0 : bits .or .u32 (0 * 256 % 4294967296) (bt s 0 % 4294967296) = bt s 0 := by
    rw [or32 0 _ (by omega) (by omega) (by omega) (by omega)]; omega
  have e1 := or32 (bt s 0) (bt s 1) (by omega) (by omega) (by omega) (by omega)
  have e2 := or32 (bt s 0 * 256 + bt s 1) (bt s 2) (by omega) (by omega) (by omega) (by omega)
  have e3 := or32 ((bt s 0 * 256 + bt s 1) * 256 + bt s 2) (bt s 3) (by omega) (by omega) (by omega) (by omega)
  have i1 : wrap64 (0 + 1) = 1 := by unfold wrap64; omega
  have i2 : wrap64 (1 + 1) = 2 := by unfold wrap64; omega
  have i3 : wrap64 (2 + 1) = 3 := by unfold wrap64; omega
  have i4 : wrap64 (3 + 1) = 4 := by unfold wrap64; omega
  rw [slab_get.l0, if_pos (by omega), if_pos (by omega), if_pos (by omega), i1, e0]
  rw [slab_get.l0, if_pos (by omega), if_pos (by omega), if_pos (by omega), i2, e1]
  rw [slab_get.l0, if_pos (by omega), if_pos (by omega), if_pos (by omega), i3, e2]
  rw [slab_get.l0, if_pos (by omega), if_pos (by omega), if_pos (by omega), i4, e3]
  rw [slab_get.l0, if_neg (by omega)]
  rfl
theorem numB_bl (s : ByteArray) (h : 4 ≤ s.size) : numB s = num4 ((bl s).getD 0 0) ((bl s).getD 1 0) ((bl s).getD 2 0) ((bl s).getD 3 0) := by
  have a := bt_bl s 0 (by omega); have b := bt_bl s 1 (by omega); have c := bt_bl s 2 (by omega); have d := bt_bl s 3 (by omega)
  unfold numB num4
  rw [show bt s 0 = _ from a, show bt s 1 = _ from b, show bt s 2 = _ from c, show bt s 3 = _ from d]
  omega
theorem of_n32 (a : Int) (h : 0 ≤ a ∧ a < 4294967296) : n32 (BitVec.ofInt 32 a) = a := by
  unfold n32
  rw [BitVec.toNat_ofInt]
  omega
/-- Pack, with its numbers as they are. -/
def packI (e i : Int) (b : ByteArray) : ByteArray × Int := packF (BitVec.ofInt 32 e) (BitVec.ofInt 32 i) b
theorem pack_eq (e i : Int) (b : ByteArray) (he : 0 ≤ e ∧ e < 4294967296) (hi : 0 ≤ i ∧ i < 4294967296) : slab_Pack.f e i b = some (packI e i b) := by
  unfold slab_Pack.f packI
  rw [if_pos ⟨he, hi⟩]
theorem packI_bl (e i : Int) (b : ByteArray) (he : 0 ≤ e ∧ e < 4294967296) (hi : 0 ≤ i ∧ i < 4294967296) (hb : b.size ≤ 112) : bl (packI e i b).1 = secL e i (bl b) ∧ (packI e i b).2 = 0 := by
  unfold packI packF
  rw [if_pos hb]
  refine ⟨?_, rfl⟩
  have := sector_list (BitVec.ofInt 32 e) (BitVec.ofInt 32 i) b hb
  rw [of_n32 e he, of_n32 i hi] at this
  exact this
/-- How long a sector's body is. -/
def lenS (s : ByteArray) : Int := bt s 8 * 256 + bt s 9
def cutB (s : ByteArray) : ByteArray := s.extract 12 (12 + (lenS s).toNat)
def nE (s : ByteArray) : Int := numB s
def nI (s : ByteArray) : Int := numB (s.extract 4 s.size)
/-- It is the sector of what it tells. -/
def isSec (s : ByteArray) : Prop := s.size = 128 ∧ lenS s ≤ 112 ∧ secL (nE s) (nI s) (bl (cutB s)) = bl s
instance (s : ByteArray) : Decidable (isSec s) := by unfold isSec; infer_instance
def unpackF (s : ByteArray) : Int × Int × ByteArray × Int := if isSec s then (nE s, nI s, cutB s, 0) else (0, 0, ⟨#[]⟩, 8)
theorem lenS_range (s : ByteArray) : 0 ≤ lenS s ∧ lenS s ≤ 65535 := by
  have a := bt_range s 8; have b := bt_range s 9
  unfold lenS; omega
theorem cutB_size (s : ByteArray) (h : s.size = 128) (hl : lenS s ≤ 112) : ((cutB s).size : Int) = lenS s := by
  have := lenS_range s
  unfold cutB
  rw [ByteArray.size_extract]; omega
theorem loop_bl (s : ByteArray) : ∀ (d i : Nat) (r : List UInt8), i + d = s.size → ByteArray.toList.loop s i r = r.reverse ++ (bl s).drop i := by
  intro d
  induction d with
  | zero =>
    intro i r h
    rw [ByteArray.toList.loop, if_neg (by omega), List.drop_of_length_le (by rw [bl_len]; omega), List.append_nil]
  | succ d ih =>
    intro i r h
    have hi : i < s.size := by omega
    have hl : i < (bl s).length := by rw [bl_len]; exact hi
    rw [ByteArray.toList.loop, if_pos hi, ih (i + 1) _ (by omega), List.drop_eq_getElem_cons hl, List.reverse_cons, List.append_assoc]
    have e : s.get! i = (bl s)[i] := by
      show s.data[i]! = s.data.toList[i]
      have hd : i < s.data.size := hi
      rw [getElem!_pos s.data i hd]
      exact (Array.getElem_toList hd).symm
    rw [e]
    rfl
theorem toList_bl (s : ByteArray) : s.toList = bl s := by
  show ByteArray.toList.loop s 0 [] = _
  rw [loop_bl s s.size 0 [] (by omega)]
  rfl
theorem unpack_eq (k : Nat) (s : ByteArray) : slab_Unpack.f (k + 5) s = some (unpackF s) := by
  unfold slab_Unpack.f unpackF
  by_cases hs : s.size = 128
  · have a := bt_range s 8; have b := bt_range s 9
    have hL := lenS_range s
    have hl : bits .or .i64 (wrap64 ((wrap64 (bt s 8)) * 256)) (wrap64 (bt s 9)) = lenS s := by
      rw [w64 (x := bt s 8) (by omega) (by omega), w64 (x := bt s 9) (by omega) (by omega), w64 (by omega) (by omega), or64 _ _ (by omega) (by omega) (by omega) (by omega)]
      rfl
    rw [if_pos (by omega), if_pos (by omega), if_pos (by omega), hl]
    by_cases h1 : lenS s > 112
    · rw [if_pos h1, if_neg (fun q => by have := q.2.1; omega)]
    · have hw : wrap64 (12 + lenS s) = 12 + lenS s := w64 (by omega) (by omega)
      have h4 : 4 ≤ (s.extract 4 s.size).size := by rw [ByteArray.size_extract]; omega
      have e1 : (12 + lenS s).toNat = 12 + (lenS s).toNat := by omega
      rw [if_neg h1, get_eq k s (by omega)]
      simp only [Option.bind_some]
      rw [if_pos (by omega), get_eq k _ h4]
      simp only [Option.bind_some]
      rw [hw, if_pos (by omega), if_pos (by omega), e1, pack_eq _ _ _ (numB_range _) (numB_range _)]
      simp only [Option.bind_some]
      have hcz := cutB_size s hs (by omega)
      have hP := packI_bl (numB s) (numB (s.extract 4 s.size)) (cutB s) (numB_range _) (numB_range _) (by omega)
      rw [toList_bl, toList_bl]
      show (if bl (packI (numB s) (numB (s.extract 4 s.size)) (cutB s)).1 = bl s then _ else _) = _
      rw [hP.1]
      by_cases q : secL (numB s) (numB (s.extract 4 s.size)) (bl (cutB s)) = bl s
      · rw [if_pos q, if_pos ⟨hs, by omega, q⟩]; rfl
      · rw [if_neg q, if_neg (fun z => q z.2.2)]
  · rw [if_neg (by omega), if_neg (fun q => hs q.1)]
theorem getD_cut (l : List UInt8) (a n j : Nat) (h : j < n) : ((l.drop a).take n).getD j 0 = l.getD (a + j) 0 := by
  rw [List.getD_eq_getElem?_getD, List.getD_eq_getElem?_getD, List.getElem?_take_of_lt h, List.getElem?_drop]
theorem numB_cut (s : ByteArray) (a b : Nat) (h : a + 4 ≤ b) (hb : b ≤ s.size) : numB (s.extract a b) = num4 ((bl s).getD a 0) ((bl s).getD (a + 1) 0) ((bl s).getD (a + 2) 0) ((bl s).getD (a + 3) 0) := by
  rw [numB_bl _ (by rw [ByteArray.size_extract]; omega), bl_cut, getD_cut _ _ _ _ (by omega), getD_cut _ _ _ _ (by omega), getD_cut _ _ _ _ (by omega), getD_cut _ _ _ _ (by omega)]
  rfl
theorem unpack_sec (e i : Int) (b s : ByteArray) (he : 0 ≤ e ∧ e < 4294967296) (hi : 0 ≤ i ∧ i < 4294967296) (hb : b.size ≤ 112) (h : bl s = secL e i (bl b)) : unpackF s = (e, i, b, 0) := by
  have hbl : (bl b).length ≤ 112 := by rw [bl_len]; exact hb
  have hs : s.size = 128 := by rw [← bl_len, h, secL_len e i _ hbl]
  have r := read_sec e i (bl b) he hi hbl
  rw [← h] at r
  unfold readL at r
  simp only [Prod.mk.injEq] at r
  have g8 : (bl s).getD 8 0 = 0 := by
    rw [h]; rfl
  have g9 : (bl s).getD 9 0 = UInt8.ofNat (bl b).length := by
    rw [h]; rfl
  have t8 := bt_bl s 8 (by omega)
  have t9 := bt_bl s 9 (by omega)
  rw [g8] at t8
  rw [g9, bl_len, UInt8.toNat_ofNat'] at t9
  have hL : lenS s = b.size := by
    unfold lenS
    rw [show bt s 8 = _ from t8, show bt s 9 = _ from t9]
    simp; omega
  have eE : nE s = e := by unfold nE; rw [numB_bl s (by omega)]; exact r.1
  have eI : nI s = i := by unfold nI; rw [numB_cut s 4 s.size (by omega) (by omega)]; exact r.2.1
  have eB : cutB s = b := by
    apply bl_ext
    unfold cutB
    rw [bl_cut, hL]
    have q := r.2.2
    rw [g9, bl_len, UInt8.toNat_ofNat', show b.size % 2 ^ 8 = b.size by omega] at q
    rw [show 12 + (b.size : Int).toNat - 12 = b.size by omega]
    exact q
  have hS : isSec s := ⟨hs, by omega, by rw [eE, eI, eB, h]⟩
  unfold unpackF
  rw [if_pos hS, eE, eI, eB]
theorem unpack_calls (s : ByteArray) (w : World) : Calls Try.prog 45 #[.string s] w fun e w' => e = .returned (.tuple #[.agg #[.int .u32 (unpackF s).1, .int .u32 (unpackF s).2.1, .string (unpackF s).2.2.1], .int .i64 (unpackF s).2.2.2]) ∧ Below w.heap.size w w' :=
  slab_Unpack.calls 5 s _ _ _ _ w (unpack_eq 0 s)
theorem pack_calls (e i : Int) (b : ByteArray) (he : 0 ≤ e ∧ e < 4294967296) (hi : 0 ≤ i ∧ i < 4294967296) (w : World) : Calls Try.prog 42 #[.agg #[.int .u32 e, .int .u32 i, .string b]] w fun f w' => f = .returned (.tuple #[.string (packI e i b).1, .int .i64 (packI e i b).2]) ∧ Below w.heap.size w w' :=
  slab_Pack.calls e i b _ _ w (pack_eq e i b he hi)
/-- What was packed is told again. -/
theorem unpack_pack (e i : Int) (b : ByteArray) (he : 0 ≤ e ∧ e < 4294967296) (hi : 0 ≤ i ∧ i < 4294967296) (hb : b.size ≤ 112) : unpackF (packI e i b).1 = (e, i, b, 0) := unpack_sec e i b _ he hi hb (packI_bl e i b he hi hb).1
end Go.Proofs.Ytneilimiijcghaa.X12
namespace Go.Proofs.Ytneilimiijcghaa.St
open Go Go.RowKit Go.ChangeMaps Go.Proofs.Ytneilimiijcghaa.Arr Go.Proofs.Ytneilimiijcghaa.Mp Go.Proofs.Ytneilimiijcghaa.Ow Go.Proofs.Ytneilimiijcghaa.Dk Go.Proofs.Ytneilimiijcghaa.X12 Go.Proofs.YtneilimiijcghaaW.PrintWords Go.Proofs.YtneilimiijcghaaW.PrintLast Go.Proofs.YtneilimiijcghaaW.PrintMore
set_option linter.unusedVariables false
set_option linter.unusedSimpArgs false
abbrev TT : TypeId := 62
abbrev TE : TypeId := 25
abbrev gaveUp (c : Int) : Ending := .panicked [{ v := .iface TE (.int .i64 c), recovered := false }]
def endS (e : Int) : Ending := if e = 0 then .returned (.tuple #[]) else gaveUp e
/-- A store's cells. -/
def SB (w : World) (gs g : Nat) (base n t : Int) : Prop := w.heap[gs]? = some (.cells #[.pointer (some ⟨g, 0, none⟩), .int .i64 base, .int .i64 n, .int .u32 t] TT (0, 0))
/-- A store over a disk: the store's own block is none of the disk's. -/
structure SK (w : World) (S : Nat → Prop) (gs g : Nat) (base n t : Int) (d : DS) : Prop where
  blk : SB w gs g base n t
  off : ¬ S gs
  dk : DK w S g d
theorem blk_lt {w : World} {k : Nat} {o : Obj} (h : w.heap[k]? = some o) : k < w.heap.size := by
  rcases Nat.lt_or_ge k w.heap.size with h1 | h1
  · exact h1
  · simp [Array.getElem?_eq_none h1] at h
theorem SB.below {w w' : World} {gs g : Nat} {base n t : Int} (h : SB w gs g base n t) (hb : Below w.heap.size w w') : SB w' gs g base n t := (hb.block gs (blk_lt h)).trans h
section
variable {w w' : World} {S : Nat → Prop} {gs g : Nat} {base n t : Int} {d d' : DS}
theorem SK.below (h : SK w S gs g base n t d) (hb : Below w.heap.size w w') : SK w' S gs g base n t d := ⟨h.blk.below hb, h.off, h.dk.below hb⟩
theorem SK.drew (h : SK w S gs g base n t d) : SK w.drew S gs g base n t d := h.below ((Below.refl _ _).drew)
theorem SK.step (h : SK w S gs g base n t d) (hf : FS S w w') (hd : DK w' S g d') : SK w' S gs g base n t d' := ⟨hf.old h.blk h.off, h.off, hd⟩
theorem SK.c0 (h : SK w S gs g base n t d) : w.cell? ⟨gs, 0, none⟩ = some (.pointer (some ⟨g, 0, none⟩)) := blk_cell h.blk 0
theorem SK.c1 (h : SK w S gs g base n t d) : w.cell? ⟨gs, 1, none⟩ = some (.int .i64 base) := blk_cell h.blk 1
theorem SK.c2 (h : SK w S gs g base n t d) : w.cell? ⟨gs, 2, none⟩ = some (.int .i64 n) := blk_cell h.blk 2
theorem SK.c3 (h : SK w S gs g base n t d) : w.cell? ⟨gs, 3, none⟩ = some (.int .u32 t) := blk_cell h.blk 3
theorem SK.lt (h : SK w S gs g base n t d) : gs < w.heap.size := blk_lt h.blk
end
theorem must_yes (w : World) : Calls Try.prog 29 #[.int .i64 0] w fun e w' => e = .returned (.tuple #[]) ∧ w' = w := by
  go_enter Try.func29, Try.ntmps29
  go_wp2
  go_end0
  exact ⟨rfl, rfl⟩
theorem must_no (c : Int) (hc : c ≠ 0) (w : World) : Calls Try.prog 29 #[.int .i64 c] w fun e w' => e = gaveUp c ∧ w' = w := by
  have h1 : (c != 0) = true := by simpa using hc
  have h2 : (c == 0) = false := by simpa using hc
  go_enter Try.func29, Try.ntmps29
  go_wp2
  exact ⟨rfl, rfl, rfl⟩
theorem as_errno (v : Value) (w : World) : (Instr.typeAssert (.iface TE v) 20 TE true).run Try.prog w = .ok (.tuple #[v, .bool true]) w := by kernel_rfl
theorem as_none (w : World) : (Instr.typeAssert .nilIface 20 TE true).run Try.prog w = .ok (.tuple #[.int .i64 0, .bool false]) w := by kernel_rfl
theorem caught_up (p : Addr) (x c : Int) (older : List PanicEntry) (w : World) (hc : w.cell? p = some (.int .i64 x)) (hz : w.frozen? p = false) :
    CallsD Try.prog 26 #[.pointer (some p)] (.panicking ({ v := .iface TE (.int .i64 c), recovered := false } :: older)) w fun e u' w' =>
      e = .returned (.tuple #[]) ∧ u' = .panicking ({ v := .iface TE (.int .i64 c), recovered := true } :: older) ∧ w' = w.setCell p (.int .i64 c) := by
  refine callsD_of_wpS Try.func26 rfl fun c₀ cs hu => ?_
  apply wpS_seq
  apply wpS_region
  simp [wpOpsS, go_sem, as_errno, as_none, recoverD, hu, Try.ntmps26, Exit.thenS]
  apply wpS_seq
  apply wpS_region
  simp [wpOpsS, go_sem, Exit.thenS]
  refine wpS_cond (t := true) (by simp [Act.eval, Array.replicate]) ?_
  simp only [if_true]
  apply wpS_region
  simp [wpOpsS, go_sem, hc, hz, bodyPostS, results, Try.results26]
theorem caught_idle (p : Addr) (w : World) :
    CallsD Try.prog 26 #[.pointer (some p)] .returning w fun e u' w' => e = .returned (.tuple #[]) ∧ u' = .returning ∧ w' = w := by
  refine callsD_of_wpS Try.func26 rfl fun c₀ cs hu => ?_
  apply wpS_seq
  apply wpS_region
  simp [wpOpsS, go_sem, as_errno, as_none, recoverD, hu, Try.ntmps26, Exit.thenS]
  apply wpS_seq
  apply wpS_region
  simp [wpOpsS, go_sem, Exit.thenS]
  refine wpS_cond (t := false) (by simp [Act.eval, Array.replicate]) ?_
  simp only [Bool.false_eq_true, if_false]
  refine wpS_of_wp (wp_skip ?_)
  cases c₀
  simp_all [bodyPostS, results, Try.results26]
section
variable {P : Program} {ops : Array Oper} {Q : Exit → Act → World → Prop}
/-- A call that may give up. -/
theorem goesP_ {oi : Oper} {N : Option Tmp} {a : Act} {w : World} {K : Act → World → Prop} {f : FuncId} {fn : Func} {os : Array Operand} {ts : Array TypeId} (hf : P.funcs[f]? = some fn) (hname : (fn.name == "runtime.NumGoroutine") = false) (hb : fn.body.isSome = true) (args : Array Value)
    (hw : Region.wanted oi (yielded ops a.tmps) = true) (hN : oi.dst = N) (hop : oi.op = .call { callee := .value (.func f), args := os, argTypes := ts }) (hargs : os.map a.eval = args)
    (h : Calls P f args w fun e w' => (∃ v, e = .returned v ∧ K (a.put N v) w') ∨ (∃ c, e = .panicked c ∧ Q (.panic c) a w')) : if Region.wanted oi (yielded ops a.tmps) = true then Oper.wp P oi a w K Q else K (a.put N undef) w := by
  have he := enters_ hf hname hb args w
  have hrun : (execOp a.eval oi).run P w = .ok (.enter f args) w := by
    unfold execOp
    simp [hop, resolve, Deferred.ofValue, invoke, Act.eval, hargs, he]
  rw [if_pos hw]
  subst hN
  unfold Oper.wp
  rw [hrun, Oper.upon_enter]
  refine h.mono fun e w'' hh => ?_
  rcases hh with ⟨v, rfl, hk⟩ | ⟨c, rfl, hq⟩
  · exact hk
  · exact hq
end
/-- A slab that is put at a place of the disk. -/
def secS (t index : Int) (b : ByteArray) : ByteArray := (packI t index b).1
def Step := DS → Int × DS
def wrS (p : Int) (s : ByteArray) : Step := fun d => (writeE d p s, writeD d p s)
def syS : Step := fun d => (syncE d, syncD d)
def thenS (a b : Step) : Step := fun d => if (a d).1 = 0 then b (a d).2 else a d
def putS (p index t : Int) (b : ByteArray) : Step := wrS p (secS t index b)
def bothS (p index t : Int) (b : ByteArray) : Step := thenS (putS p index t (b.extract 0 112)) (thenS (putS (p + 1) (index + 1) t (b.extract 112 224)) syS)
theorem secS_size (t index : Int) (b : ByteArray) (ht : 0 ≤ t ∧ t < 4294967296) (hi : 0 ≤ index ∧ index < 4294967296) (hb : b.size ≤ 112) : (secS t index b).size = 128 := by
  unfold secS
  rw [← bl_len, (packI_bl t index b ht hi hb).1, Slab.secL_len _ _ _ (by rw [bl_len]; exact hb)]
end Go.Proofs.Ytneilimiijcghaa.St
namespace Go.Proofs.Ytneilimiijcghaa.St
open Go.Proofs.Ytneilimiijcghaa.Rgn
open Go Go.RowKit Go.ChangeMaps Go.Proofs.Ytneilimiijcghaa.Arr Go.Proofs.Ytneilimiijcghaa.Mp Go.Proofs.Ytneilimiijcghaa.Ow Go.Proofs.Ytneilimiijcghaa.Dk Go.Proofs.YtneilimiijcghaaW.PrintWords Go.Proofs.YtneilimiijcghaaW.PrintLast Go.Proofs.YtneilimiijcghaaW.PrintMore
set_option linter.unusedVariables false
set_option linter.unusedSimpArgs false
theorem pack0 (t index : Int) (b : ByteArray) (ht : 0 ≤ t ∧ t < 4294967296) (hi : 0 ≤ index ∧ index < 4294967296) (hb : b.size ≤ 112) (w : World) : Calls Try.prog 42 #[.agg #[.int .u32 t, .int .u32 index, .string b]] w fun f w' => f = .returned (.tuple #[.string (secS t index b), .int .i64 0]) ∧ Below w.heap.size w w' := by
  have h := X12.pack_calls t index b ht hi w
  rw [(X12.packI_bl t index b ht hi hb).2] at h
  exact h
set_option maxHeartbeats 4000000 in
theorem put_calls {N : Nat} (d : DS) (g gs : Nat) (base n tk i index t : Int) (b : ByteArray) (S : Nat → Prop) (w : World) (hS : Top S w) (h : SK w S gs g base n tk d) (ho : OkN N d) (hi : (0 ≤ base ∧ base ≤ 1000) ∧ 0 ≤ i ∧ i ≤ 1000) (hx : 0 ≤ index ∧ index ≤ 1000) (ht : 0 ≤ t ∧ t < 4294967296) (hb : b.size ≤ 112) :
    Calls Try.prog 28 #[.pointer (some ⟨gs, 0, none⟩), .int .i64 i, .int .i64 index, .int .u32 t, .string b] w fun x w' => x = endS (putS (base + i) index t b d).1 ∧ SK w' S gs g base n tk (putS (base + i) index t b d).2 ∧ FS S w w' := by
  have HS := Aside0.mk hS; have HK := Aside0.mk h; have HO := Aside0.mk ho; have HT := Aside0.mk ht; have HX := Aside0.mk (show 0 ≤ index ∧ index < 4294967296 by omega); have HBS := Aside0.mk hb
  have hw : wrap64 (base + i) = base + i := by unfold wrap64; omega
  have hcv : IntKind.u32.wrap index = index := by rw [IntKind.wrap_u32]; exact Int.emod_eq_of_lt (by omega) (by omega)
  clear hS h ho hi hx ht hb
  rw [show putS (base + i) index t b d = (writeE d (base + i) (secS t index b), writeD d (base + i) (secS t index b)) from rfl]
  go_enter Try.func28, Try.ntmps28
  go_upto_region 2 with (first | (go_at_call 42; (with_reducible refine (pack0 t index b HT.out HX.out HBS.out _).mono ?_); rintro e w1 ⟨rfl, hb1⟩; have HB1 := Aside0.mk hb1; clear hb1) | (go_at_call 29; (with_reducible refine (must_yes _).mono ?_); rintro e w2 ⟨rfl, rfl⟩))
  have HK1 := Aside0.mk (HK.out.below HB1.out).drew
  have F1 := Aside0.mk (((FS.refl S w).below HB1.out).drew)
  have HS1 := Aside0.mk (HS.out.next F1.out.size)
  have c0 := HK1.out.c0; have c1 := HK1.out.c1
  clear HB1 HK
  by_cases he : writeE d (base + i) (secS t index b) = 0
  · have HE := Aside0.mk he; clear he
    refine start_ (n := 13) (S := fun w' => w'.cell? ⟨gs, 0, none⟩ = some (.pointer (some ⟨g, 0, none⟩)) ∧ w'.cell? ⟨gs, 1, none⟩ = some (.int .i64 base)) (ds := []) #[false, false, false, false, false, false, false, false, false, false, false, false, false] (by kernel_rfl) rfl rfl ⟨c0, c1⟩ (fun hHeld => ?_)
    refine rgp 0 23 ?_
    refine rgp 1 24 ?_
    refine rgp 2 25 ?_
    refine rgp 4 27 ?_
    refine rgp 5 28 ?_
    refine rgp 6 29 ?_
    refine rgp 8 31 ?_
    refine rgp 10 33 ?_
    refine rgt 3 26 hHeld ?_
    refine rgt 7 30 hHeld ?_
    refine rgp 9 32 ?_
    refine one_ (i := 11) (N := some 34) #[true, true, true, true, true, true, true, true, true, true, true, true, false] rfl rfl (by kernel_rfl) (by decide) (fun K hK => ?_)
    generalize w2.drew = X0_ at *
    refine goes_ Try.func43 (by kernel_rfl) rfl #[.pointer (some ⟨g, 0, none⟩), .int .i64 (wrap64 (base + i)), .string (secS t index b)] (by rfl) rfl rfl (by (try simp only [List.map_toArray, List.map_cons, List.map_nil]); first | done | rfl) ?_
    rw [hw]
    refine (write_calls d g (base + i) (secS t index b) S _ HS1.out HK1.out.dk HO.out.ok).mono ?_
    rintro e v1_ ⟨rfl, hk, hf⟩
    refine ⟨_, rfl, ?_⟩
    have HK2 := Aside0.mk (HK1.out.step hf hk); have F2 := Aside0.mk (F1.out.trans hf); clear hk hf HK1 F1
    refine hK _ _ ⟨HK2.out.c0, HK2.out.c1⟩ (fun hHeld => ?_)
    clear hK K
    rw [HE.out]
    refine norm_ (a' := ?_) ?_ ?_
    rotate_left
    · show Act.put _ (some 34) _ = _
      simp only [Act.put, List.setIfInBounds_toArray, List.set_cons_zero, List.set_cons_succ, i64_w, i32_w]
      rfl
    refine one_ (i := 12) (N := some 35) #[true, true, true, true, true, true, true, true, true, true, true, true, true] rfl rfl (by kernel_rfl) (by decide) (fun K hK => ?_)
    refine goes_ Try.func29 (by kernel_rfl) rfl #[.int .i64 0] (by rfl) rfl rfl (by (try simp only [List.map_toArray, List.map_cons, List.map_nil]); first | done | rfl) ?_
    refine (must_yes _).mono ?_
    rintro e w9 ⟨rfl, hw9⟩
    replace hw9 := hw9.symm
    subst hw9
    refine ⟨_, rfl, ?_⟩
    refine hK _ _ hHeld (fun hHeld => ?_)
    clear hK K
    refine norm_ (a' := ?_) ?_ ?_
    rotate_left
    · show Act.put _ (some 35) _ = _
      simp only [Act.put, List.setIfInBounds_toArray, List.set_cons_zero, List.set_cons_succ, i64_w, i32_w]
      rfl
    refine done_ (by kernel_rfl) ?_
    clear hHeld c0 c1
    go_wp2
    go_end0
    have en : endS (writeE d (base + i) (secS t index b)) = .returned (.tuple #[]) := if_pos HE.out
    exact ⟨en.symm, HK2.out, F2.out⟩
  · have HE := Aside0.mk he; clear he
    refine start_ (n := 13) (S := fun w' => w'.cell? ⟨gs, 0, none⟩ = some (.pointer (some ⟨g, 0, none⟩)) ∧ w'.cell? ⟨gs, 1, none⟩ = some (.int .i64 base)) (ds := []) #[false, false, false, false, false, false, false, false, false, false, false, false, false] (by kernel_rfl) rfl rfl ⟨c0, c1⟩ (fun hHeld => ?_)
    refine rgp 0 23 ?_
    refine rgp 1 24 ?_
    refine rgp 2 25 ?_
    refine rgp 4 27 ?_
    refine rgp 5 28 ?_
    refine rgp 6 29 ?_
    refine rgp 8 31 ?_
    refine rgp 10 33 ?_
    refine rgt 3 26 hHeld ?_
    refine rgt 7 30 hHeld ?_
    refine rgp 9 32 ?_
    refine one_ (i := 11) (N := some 34) #[true, true, true, true, true, true, true, true, true, true, true, true, false] rfl rfl (by kernel_rfl) (by decide) (fun K hK => ?_)
    generalize w2.drew = X0_ at *
    refine goes_ Try.func43 (by kernel_rfl) rfl #[.pointer (some ⟨g, 0, none⟩), .int .i64 (wrap64 (base + i)), .string (secS t index b)] (by rfl) rfl rfl (by (try simp only [List.map_toArray, List.map_cons, List.map_nil]); first | done | rfl) ?_
    rw [hw]
    refine (write_calls d g (base + i) (secS t index b) S _ HS1.out HK1.out.dk HO.out.ok).mono ?_
    rintro e v1_ ⟨rfl, hk, hf⟩
    refine ⟨_, rfl, ?_⟩
    have HK2 := Aside0.mk (HK1.out.step hf hk); have F2 := Aside0.mk (F1.out.trans hf); clear hk hf HK1 F1
    refine hK _ _ ⟨HK2.out.c0, HK2.out.c1⟩ (fun hHeld => ?_)
    clear hK K
    refine norm_ (a' := ?_) ?_ ?_
    rotate_left
    · show Act.put _ (some 34) _ = _
      simp only [Act.put, List.setIfInBounds_toArray, List.set_cons_zero, List.set_cons_succ, i64_w, i32_w]
      rfl
    refine one_ (i := 12) (N := some 35) #[true, true, true, true, true, true, true, true, true, true, true, true, true] rfl rfl (by kernel_rfl) (by decide) (fun K hK => ?_)
    refine goesP_ Try.func29 (by kernel_rfl) rfl #[.int .i64 (writeE d (base + i) (secS t index b))] (by rfl) rfl rfl (by (try simp only [List.map_toArray, List.map_cons, List.map_nil]); first | done | rfl) ?_
    refine (must_no _ HE.out _).mono ?_
    rintro e w9 ⟨rfl, hw9⟩
    replace hw9 := hw9.symm
    subst hw9
    refine Or.inr ⟨_, rfl, ?_⟩
    have en : endS (writeE d (base + i) (secS t index b)) = gaveUp (writeE d (base + i) (secS t index b)) := if_neg HE.out
    exact ⟨rfl, en.symm, HK2.out, F2.out⟩
end Go.Proofs.Ytneilimiijcghaa.St
namespace Go.Proofs.Ytneilimiijcghaa.St
open Go Go.RowKit Go.ChangeMaps Go.Proofs.Ytneilimiijcghaa.Arr Go.Proofs.Ytneilimiijcghaa.Mp Go.Proofs.Ytneilimiijcghaa.Ow Go.Proofs.Ytneilimiijcghaa.Dk Go.Proofs.YtneilimiijcghaaW.PrintWords Go.Proofs.YtneilimiijcghaaW.PrintLast Go.Proofs.YtneilimiijcghaaW.PrintMore
set_option linter.unusedVariables false
set_option linter.unusedSimpArgs false
theorem put_ok {N : Nat} (d : DS) (g gs : Nat) (base n tk i index t : Int) (b : ByteArray) (S : Nat → Prop) (w : World) (hS : Top S w) (h : SK w S gs g base n tk d) (ho : OkN N d) (hi : (0 ≤ base ∧ base ≤ 1000) ∧ 0 ≤ i ∧ i ≤ 1000) (hx : 0 ≤ index ∧ index ≤ 1000) (ht : 0 ≤ t ∧ t < 4294967296) (hb : b.size ≤ 112) (he : (putS (base + i) index t b d).1 = 0) :
    Calls Try.prog 28 #[.pointer (some ⟨gs, 0, none⟩), .int .i64 i, .int .i64 index, .int .u32 t, .string b] w fun x w' => x = .returned (.tuple #[]) ∧ SK w' S gs g base n tk (putS (base + i) index t b d).2 ∧ FS S w w' := by
  refine (put_calls d g gs base n tk i index t b S w hS h ho hi hx ht hb).mono ?_
  rintro e w' ⟨hx, hk⟩
  exact ⟨hx.trans (if_pos he), hk⟩
theorem put_no {N : Nat} (d : DS) (g gs : Nat) (base n tk i index t : Int) (b : ByteArray) (S : Nat → Prop) (w : World) (hS : Top S w) (h : SK w S gs g base n tk d) (ho : OkN N d) (hi : (0 ≤ base ∧ base ≤ 1000) ∧ 0 ≤ i ∧ i ≤ 1000) (hx : 0 ≤ index ∧ index ≤ 1000) (ht : 0 ≤ t ∧ t < 4294967296) (hb : b.size ≤ 112) (he : (putS (base + i) index t b d).1 ≠ 0) :
    Calls Try.prog 28 #[.pointer (some ⟨gs, 0, none⟩), .int .i64 i, .int .i64 index, .int .u32 t, .string b] w fun x w' => x = gaveUp (putS (base + i) index t b d).1 ∧ SK w' S gs g base n tk (putS (base + i) index t b d).2 ∧ FS S w w' := by
  refine (put_calls d g gs base n tk i index t b S w hS h ho hi hx ht hb).mono ?_
  rintro e w' ⟨hx, hk⟩
  exact ⟨hx.trans (if_neg he), hk⟩
theorem ok_put {N : Nat} {d : DS} {p index t : Int} {b : ByteArray} (h : OkN N d) (hN : N < 1000000) : OkN (N + 1) (putS p index t b d).2 := ok_write h hN
theorem both_none {p index t : Int} {b : ByteArray} {d : DS} (h : (putS p index t (b.extract 0 112) d).1 ≠ 0) : bothS p index t b d = putS p index t (b.extract 0 112) d := by
  unfold bothS thenS
  rw [if_neg h]
theorem both_some {p index t : Int} {b : ByteArray} {d : DS} (h : (putS p index t (b.extract 0 112) d).1 = 0) : bothS p index t b d = thenS (putS (p + 1) (index + 1) t (b.extract 112 224)) syS (putS p index t (b.extract 0 112) d).2 := by
  unfold bothS
  rw [show thenS (putS p index t (b.extract 0 112)) (thenS (putS (p + 1) (index + 1) t (b.extract 112 224)) syS) d = if (putS p index t (b.extract 0 112) d).1 = 0 then thenS (putS (p + 1) (index + 1) t (b.extract 112 224)) syS (putS p index t (b.extract 0 112) d).2 else putS p index t (b.extract 0 112) d from rfl, if_pos h]
theorem then_none {a c : Step} {d : DS} (h : (a d).1 ≠ 0) : thenS a c d = a d := by unfold thenS; rw [if_neg h]
theorem then_some {a c : Step} {d : DS} (h : (a d).1 = 0) : thenS a c d = c (a d).2 := by unfold thenS; rw [if_pos h]
set_option maxHeartbeats 4000000 in
theorem both_calls {N : Nat} (d : DS) (g gs : Nat) (base n tk i index t : Int) (b : ByteArray) (S : Nat → Prop) (w : World) (hS : Top S w) (h : SK w S gs g base n tk d) (ho : OkN N d) (hi : (0 ≤ base ∧ base ≤ 1000) ∧ 0 ≤ i ∧ i ≤ 900) (hx : 0 ≤ index ∧ index ≤ 900) (ht : 0 ≤ t ∧ t < 4294967296) (hN : N < 900000) (hb : b.size = 224) :
    Calls Try.prog 27 #[.pointer (some ⟨gs, 0, none⟩), .int .i64 i, .int .i64 index, .int .u32 t, .string b] w fun x w' => x = endS (bothS (base + i) index t b d).1 ∧ SK w' S gs g base n tk (bothS (base + i) index t b d).2 ∧ FS S w w' := by
  have HS := Aside0.mk hS; have HK := Aside0.mk h; have HO := Aside0.mk ho; have HT := Aside0.mk ht; have HN := Aside0.mk hN
  have HI := Aside0.mk (show (0 ≤ base ∧ base ≤ 1000) ∧ 0 ≤ i ∧ i ≤ 1000 by omega); have HX := Aside0.mk (show 0 ≤ index ∧ index ≤ 1000 by omega)
  have HB0 := Aside0.mk (show (b.extract 0 112).size ≤ 112 by rw [ByteArray.size_extract]; omega)
  have HB1 := Aside0.mk (show (b.extract 112 224).size ≤ 112 by rw [ByteArray.size_extract]; omega)
  clear hS h ho ht hN
  by_cases e1 : (putS (base + i) index t (b.extract 0 112) d).1 = 0
  rotate_left
  · have E1 := Aside0.mk e1
    rw [both_none e1]
    clear e1
    go_enter Try.func27, Try.ntmps27
    go_upto_region 1 with (fail)
    go_loopw [11] (fun v wr => v = .int .i64 0 ∧ wr = w) (fun _ _ => 0)
    case atStart => exact ⟨rfl, rfl⟩
    case round =>
      obtain ⟨rfl, rfl⟩ := hrel
      have w0 : wrap64 i = i := by unfold wrap64; omega
      have w1 : wrap64 index = index := by unfold wrap64; omega
      clear hi hx
      go_wp2_with (go_at_call 28; (with_reducible refine (put_no d g gs base n tk i index t (b.extract 0 112) S _ HS.out HK.out HO.out HI.out HX.out HT.out HB0.out E1.out).mono ?_); rintro e w1 ⟨rfl, hk, hf⟩)
      refine ⟨rfl, ?_⟩
      exact ⟨(if_neg E1.out).symm, hk, hf⟩
  have E1 := Aside0.mk e1
  rw [both_some e1]
  have HO1 := Aside0.mk (ok_put (p := base + i) (index := index) (t := t) (b := b.extract 0 112) HO.out (by have := HN.out; omega))
  clear e1
  generalize hd1 : (putS (base + i) index t (b.extract 0 112) d).2 = d1 at *
  have ew : base + i + 1 = base + (i + 1) := by omega
  rw [ew]
  clear ew
  have HI1 := Aside0.mk (show (0 ≤ base ∧ base ≤ 1000) ∧ 0 ≤ i + 1 ∧ i + 1 ≤ 1000 by have := HI.out; omega); have HX1 := Aside0.mk (show 0 ≤ index + 1 ∧ index + 1 ≤ 1000 by omega)
  have w0 : wrap64 i = i := by unfold wrap64; omega
  have w1 : wrap64 index = index := by unfold wrap64; omega
  have w2 : wrap64 (i + 1) = i + 1 := by unfold wrap64; omega
  have w3 : wrap64 (index + 1) = index + 1 := by unfold wrap64; omega
  have HD1 := Aside0.mk hd1
  clear hi hx hd1
  by_cases e2 : (putS (base + (i + 1)) (index + 1) t (b.extract 112 224) d1).1 = 0
  rotate_left
  · have E2 := Aside0.mk e2
    rw [then_none e2]
    clear e2
    go_enter Try.func27, Try.ntmps27
    go_upto_region 1 with (fail)
    go_loopw [11] (fun v wr => (v = .int .i64 0 ∧ wr = w) ∨ (v = .int .i64 1 ∧ Aside0 (SK wr S gs g base n tk d1) ∧ Aside0 (FS S w wr))) (fun v _ => 2 - (intOf v).toNat)
    case atStart => exact .inl ⟨rfl, rfl⟩
    case round =>
      rcases hrel with ⟨rfl, rfl⟩ | ⟨rfl, HK1, F1⟩
      · go_wp2_with (go_at_call 28; (with_reducible refine (put_ok d g gs base n tk i index t (b.extract 0 112) S _ HS.out HK.out HO.out HI.out HX.out HT.out HB0.out E1.out).mono ?_); rintro e w1 ⟨rfl, hk, hf⟩; rw [HD1.out] at hk; have HK1 := Aside0.mk hk; have F1 := Aside0.mk hf; clear hk hf)
        go_roundw
        case rel => exact .inr ⟨rfl, HK1, F1⟩
        case measure => simp [intOf]
      · go_wp2_with (go_at_call 28; (with_reducible refine (put_no d1 g gs base n tk (i + 1) (index + 1) t (b.extract 112 224) S _ (HS.out.next F1.out.size) HK1.out HO1.out HI1.out HX1.out HT.out HB1.out E2.out).mono ?_); rintro e w1 ⟨rfl, hk, hf⟩)
        refine ⟨rfl, ?_⟩
        exact ⟨(if_neg E2.out).symm, hk, F1.out.trans hf⟩
  have E2 := Aside0.mk e2
  rw [then_some e2]
  have HO2 := Aside0.mk (ok_put (p := base + (i + 1)) (index := index + 1) (t := t) (b := b.extract 112 224) HO1.out (by have := HN.out; omega))
  clear e2
  generalize hd2 : (putS (base + (i + 1)) (index + 1) t (b.extract 112 224) d1).2 = d2 at *
  have HD2 := Aside0.mk hd2
  clear hd2
  rw [show syS d2 = (syncE d2, syncD d2) from rfl]
  go_enter Try.func27, Try.ntmps27
  go_upto_region 1 with (fail)
  go_loopw [11] (fun v wr => (v = .int .i64 0 ∧ wr = w) ∨ (v = .int .i64 1 ∧ Aside0 (SK wr S gs g base n tk d1) ∧ Aside0 (FS S w wr)) ∨ (v = .int .i64 2 ∧ Aside0 (SK wr S gs g base n tk d2) ∧ Aside0 (FS S w wr))) (fun v _ => 2 - (intOf v).toNat)
  case atStart => exact .inl ⟨rfl, rfl⟩
  case round =>
    rcases hrel with ⟨rfl, rfl⟩ | ⟨rfl, HK1, F1⟩ | ⟨rfl, HK2, F2⟩
    · go_wp2_with (go_at_call 28; (with_reducible refine (put_ok d g gs base n tk i index t (b.extract 0 112) S _ HS.out HK.out HO.out HI.out HX.out HT.out HB0.out E1.out).mono ?_); rintro e w1 ⟨rfl, hk, hf⟩; rw [HD1.out] at hk; have HK1 := Aside0.mk hk; have F1 := Aside0.mk hf; clear hk hf)
      go_roundw
      case rel => exact .inr (.inl ⟨rfl, HK1, F1⟩)
      case measure => simp [intOf]
    · go_wp2_with (go_at_call 28; (with_reducible refine (put_ok d1 g gs base n tk (i + 1) (index + 1) t (b.extract 112 224) S _ (HS.out.next F1.out.size) HK1.out HO1.out HI1.out HX1.out HT.out HB1.out E2.out).mono ?_); rintro e w1 ⟨rfl, hk, hf⟩; rw [HD2.out] at hk; have HK2 := Aside0.mk hk; have F2 := Aside0.mk (F1.out.trans hf); clear hk hf)
      go_roundw
      case rel => exact .inr (.inr ⟨rfl, HK2, F2⟩)
      case measure => simp [intOf]
    · have c0 := HK2.out.c0
      by_cases e3 : syncE d2 = 0
      · have E3 := Aside0.mk e3; clear e3
        go_wp2_with (first | (go_at_call 30; (with_reducible refine (sync_calls d2 g S _ (HS.out.next F2.out.size) HK2.out.dk HO2.out.ok).mono ?_); rintro e w1 ⟨rfl, hk, hf⟩; rw [E3.out]; have HK3 := Aside0.mk (HK2.out.step hf hk); have F3 := Aside0.mk (F2.out.trans hf); clear hk hf) | (go_at_call 29; (with_reducible refine (must_yes _).mono ?_); rintro e w3 ⟨rfl, rfl⟩))
        go_end0
        exact ⟨(if_pos E3.out).symm, HK3.out, F3.out⟩
      · have E3 := Aside0.mk e3; clear e3
        go_wp2_with (first | (go_at_call 30; (with_reducible refine (sync_calls d2 g S _ (HS.out.next F2.out.size) HK2.out.dk HO2.out.ok).mono ?_); rintro e w1 ⟨rfl, hk, hf⟩; have HK3 := Aside0.mk (HK2.out.step hf hk); have F3 := Aside0.mk (F2.out.trans hf); clear hk hf) | (go_at_call 29; (with_reducible refine (must_no _ E3.out _).mono ?_); rintro e w3 ⟨rfl, rfl⟩))
        refine ⟨rfl, ?_⟩
        exact ⟨(if_neg E3.out).symm, HK3.out, F3.out⟩
end Go.Proofs.Ytneilimiijcghaa.St
namespace Go.Proofs.Ytneilimiijcghaa.St
open Go.Proofs.Ytneilimiijcghaa.Rgn
open Go Go.RowKit Go.ChangeMaps Go.Proofs.Ytneilimiijcghaa.Arr Go.Proofs.Ytneilimiijcghaa.Mp Go.Proofs.Ytneilimiijcghaa.Ow Go.Proofs.Ytneilimiijcghaa.Dk Go.Proofs.YtneilimiijcghaaW.PrintWords Go.Proofs.YtneilimiijcghaaW.PrintLast Go.Proofs.YtneilimiijcghaaW.PrintMore
set_option linter.unusedVariables false
set_option linter.unusedSimpArgs false
theorem unpack_lt (s : ByteArray) : (0 ≤ (X12.unpackF s).1 ∧ (X12.unpackF s).1 < 4294967296) ∧ 0 ≤ (X12.unpackF s).2.1 ∧ (X12.unpackF s).2.1 < 4294967296 := by
  unfold X12.unpackF
  split
  · exact ⟨X12.numB_range _, X12.numB_range _⟩
  · decide
/-- What is read of a sector: the slab, and whether it is one of that index. -/
def sreadF (d : DS) (p index : Int) : Int × Int × ByteArray × Bool :=
  if readE d p ≠ 0 then (0, 0, ⟨#[]⟩, false) else ((X12.unpackF (readS d p)).1, (X12.unpackF (readS d p)).2.1, (X12.unpackF (readS d p)).2.2.1, (X12.unpackF (readS d p)).2.2.2 == 0 && (X12.unpackF (readS d p)).2.1 == index)
abbrev TB7 : TypeId := 75
set_option maxHeartbeats 4000000 in
theorem sread_calls {N : Nat} (d : DS) (g gs : Nat) (base n tk i index : Int) (S : Nat → Prop) (w : World) (h : SK w S gs g base n tk d) (ho : OkN N d) (hi : (0 ≤ base ∧ base ≤ 1000) ∧ 0 ≤ i ∧ i ≤ 1000) :
    Calls Try.prog 37 #[.pointer (some ⟨gs, 0, none⟩), .int .i64 i, .int .i64 index] w fun x w' => x = .returned (.tuple #[.agg #[.int .u32 (sreadF d (base + i) index).1, .int .u32 (sreadF d (base + i) index).2.1, .string (sreadF d (base + i) index).2.2.1], .bool (sreadF d (base + i) index).2.2.2]) ∧ Below w.heap.size w w' := by
  have HK := Aside0.mk h; have HO := Aside0.mk ho
  have HW := Aside0.mk (show wrap64 (base + i) = base + i by unfold wrap64; omega)
  clear h ho hi
  have HA := Aside0.mk (heap_alloc_new w (.cells #[.int .u32 0, .int .u32 0, .string ⟨#[]⟩] TB7))
  have HB := Aside0.mk ((Below.refl w.heap.size w).alloc (Nat.le_refl _) (.cells #[.int .u32 0, .int .u32 0, .string ⟨#[]⟩] TB7))
  have HKA := Aside0.mk (HK.out.below HB.out)
  obtain ⟨W, hW⟩ : ∃ W, W = w.alloc (.cells #[.int .u32 0, .int .u32 0, .string ⟨#[]⟩] TB7) := ⟨_, rfl⟩
  go_enter Try.func37, Try.ntmps37
  go_upto_region 1 with (fail)
  rw [← hW] at HA HB HKA ⊢
  clear hW
  have HK1 := Aside0.mk HKA.out.drew; have HB1 := Aside0.mk HB.out.drew
  have HT1 := Aside0.mk (show W.drew.heap[w.heap.size]? = some (.cells #[.int .u32 0, .int .u32 0, .string ⟨#[]⟩] TB7 (0, 0)) from HA.out)
  have c0 := HK1.out.c0; have c1 := HK1.out.c1
  clear HA HB HKA
  refine start_ (n := 16) (S := fun w' => w'.cell? ⟨gs, 0, none⟩ = some (.pointer (some ⟨g, 0, none⟩)) ∧ w'.cell? ⟨gs, 1, none⟩ = some (.int .i64 base)) (ds := []) #[false, false, false, false, false, false, false, false, false, false, false, false, false, false, false, false] (by kernel_rfl) rfl rfl ⟨c0, c1⟩ (fun hHeld => ?_)
  refine rgp 0 11 ?_
  refine rgp 1 12 ?_
  refine rgp 2 13 ?_
  refine rgp 4 15 ?_
  refine rgp 5 16 ?_
  refine rgp 6 17 ?_
  refine rgp 8 19 ?_
  refine rgt 3 14 hHeld ?_
  refine rgt 7 18 hHeld ?_
  refine rgp 9 20 ?_
  refine one_ (i := 10) (N := some 21) #[true, true, true, true, true, true, true, true, true, true, true, false, false, false, false, false] rfl rfl (by kernel_rfl) (by decide) (fun K hK => ?_)
  generalize W.drew = X0_ at *
  refine goes_ Try.func35 (by kernel_rfl) rfl #[.pointer (some ⟨g, 0, none⟩), .int .i64 (wrap64 (base + i))] (by rfl) rfl rfl (by (try simp only [List.map_toArray, List.map_cons, List.map_nil]); first | done | rfl) ?_
  rw [HW.out]
  refine (read_calls d g (base + i) S _ HK1.out.dk HO.out.ok).mono ?_
  rintro e v1_ ⟨rfl, hb1⟩
  refine ⟨_, rfl, ?_⟩
  have HK2 := Aside0.mk (HK1.out.below hb1); have HB2 := Aside0.mk (Arr.below_trans HB1.out hb1)
  have HT2 := Aside0.mk ((hb1.block w.heap.size (blk_lt HT1.out)).trans HT1.out)
  clear hb1 HK1 HB1 HT1
  refine hK _ _ ⟨HK2.out.c0, HK2.out.c1⟩ (fun hHeld => ?_)
  clear hK K
  refine norm_ (a' := ?_) ?_ ?_
  rotate_left
  · show Act.put _ (some 21) _ = _
    simp only [Act.put, List.setIfInBounds_toArray, List.set_cons_zero, List.set_cons_succ, i64_w, i32_w]
    rfl
  refine rgp 11 10 ?_
  refine rgp 12 22 ?_
  refine rgp 13 23 ?_
  refine rgp 14 8 ?_
  refine rgp 15 9 ?_
  refine done_ (by kernel_rfl) ?_
  clear hHeld c0 c1
  obtain ⟨z0, z1, z2⟩ : v1_.cell? ⟨w.heap.size, 0, none⟩ = some (.int .u32 0) ∧ v1_.cell? ⟨w.heap.size, 1, none⟩ = some (.int .u32 0) ∧ v1_.cell? ⟨w.heap.size, 2, none⟩ = some (.string ⟨#[]⟩) := ⟨blk_cell HT2.out 0, blk_cell HT2.out 1, blk_cell HT2.out 2⟩
  have y0 := blk_frozen HT2.out 0; have y1 := blk_frozen HT2.out 1; have y2 := blk_frozen HT2.out 2
  by_cases he : readE d (base + i) = 0
  · obtain ⟨ue, ui, ub, ur, hu⟩ : ∃ a b c e, X12.unpackF (readS d (base + i)) = (a, b, c, e) := ⟨_, _, _, _, rfl⟩
    have hl := unpack_lt (readS d (base + i))
    rw [hu] at hl
    simp only at hl
    have HU := Aside0.mk hu
    have hcv : wrap64 ui = ui := by unfold wrap64; omega
    clear hl
    by_cases a1 : ur = 0
    rotate_left
    · have HF := Aside0.mk (show sreadF d (base + i) index = (ue, ui, ub, false) by unfold sreadF; rw [if_neg (by simp [he]), hu]; simp [a1])
      have b1 : (ur == 0) = false := by simpa using a1
      have b1n : (ur != 0) = true := by simpa using a1
      clear a1 hu
      go_wp2_with (go_at_call 45; (with_reducible refine (X12.unpack_calls (readS d (base + i)) _).mono ?_); rintro e w3 ⟨rfl, hb3⟩; rw [HU.out]; have HT3 := Aside0.mk ((hb3.block w.heap.size (blk_lt HT2.out)).trans HT2.out); have HB3 := Aside0.mk (Arr.below_trans HB2.out hb3); clear hb3 z0 z1 z2 y0 y1 y2; obtain ⟨z0, z1, z2⟩ : w3.cell? ⟨w.heap.size, 0, none⟩ = some (.int .u32 0) ∧ w3.cell? ⟨w.heap.size, 1, none⟩ = some (.int .u32 0) ∧ w3.cell? ⟨w.heap.size, 2, none⟩ = some (.string ⟨#[]⟩) := ⟨blk_cell HT3.out 0, blk_cell HT3.out 1, blk_cell HT3.out 2⟩; have y0 := blk_frozen HT3.out 0; have y1 := blk_frozen HT3.out 1; have y2 := blk_frozen HT3.out 2)
      have b2 := set_blk (set_blk (set_blk (set_blk (set_blk (set_blk HT3.out 0 (.int .u32 ue)) 1 (.int .u32 ui)) 2 (.string ub)) 0 (.int .u32 ue)) 1 (.int .u32 ui)) 2 (.string ub)
      refine bodyPost_ret (results_ct rfl _ _ _ _ _ _ _ rfl b2 Try.underlying75 rfl rfl) rfl ⟨?_, ?_⟩
      · rw [HF.out]; rfl
      · exact (((((HB3.out.setCell (by simp) _).setCell (by simp) _).setCell (by simp) _).setCell (by simp) _).setCell (by simp) _).setCell (by simp) _
    by_cases a2 : ui = index
    · have HF := Aside0.mk (show sreadF d (base + i) index = (ue, ui, ub, true) by unfold sreadF; rw [if_neg (by simp [he]), hu]; simp [a1, a2])
      have b1 : (ur == 0) = true := by simpa using a1
      have b1n : (ur != 0) = false := by simpa using a1
      have b2 : (ui == index) = true := by simpa using a2
      clear a1 hu a2
      go_wp2_with (go_at_call 45; (with_reducible refine (X12.unpack_calls (readS d (base + i)) _).mono ?_); rintro e w3 ⟨rfl, hb3⟩; rw [HU.out]; have HT3 := Aside0.mk ((hb3.block w.heap.size (blk_lt HT2.out)).trans HT2.out); have HB3 := Aside0.mk (Arr.below_trans HB2.out hb3); clear hb3 z0 z1 z2 y0 y1 y2; obtain ⟨z0, z1, z2⟩ : w3.cell? ⟨w.heap.size, 0, none⟩ = some (.int .u32 0) ∧ w3.cell? ⟨w.heap.size, 1, none⟩ = some (.int .u32 0) ∧ w3.cell? ⟨w.heap.size, 2, none⟩ = some (.string ⟨#[]⟩) := ⟨blk_cell HT3.out 0, blk_cell HT3.out 1, blk_cell HT3.out 2⟩; have y0 := blk_frozen HT3.out 0; have y1 := blk_frozen HT3.out 1; have y2 := blk_frozen HT3.out 2)
      have b2 := set_blk (set_blk (set_blk (set_blk (set_blk (set_blk HT3.out 0 (.int .u32 ue)) 1 (.int .u32 ui)) 2 (.string ub)) 0 (.int .u32 ue)) 1 (.int .u32 ui)) 2 (.string ub)
      refine bodyPost_ret (results_ct rfl _ _ _ _ _ _ _ rfl b2 Try.underlying75 rfl rfl) rfl ⟨?_, ?_⟩
      · rw [HF.out]; rfl
      · exact (((((HB3.out.setCell (by simp) _).setCell (by simp) _).setCell (by simp) _).setCell (by simp) _).setCell (by simp) _).setCell (by simp) _
    · have HF := Aside0.mk (show sreadF d (base + i) index = (ue, ui, ub, false) by unfold sreadF; rw [if_neg (by simp [he]), hu]; simp [a1, a2])
      have b1 : (ur == 0) = true := by simpa using a1
      have b1n : (ur != 0) = false := by simpa using a1
      have b2 : (ui == index) = false := by simpa using a2
      clear a1 hu a2
      go_wp2_with (go_at_call 45; (with_reducible refine (X12.unpack_calls (readS d (base + i)) _).mono ?_); rintro e w3 ⟨rfl, hb3⟩; rw [HU.out]; have HT3 := Aside0.mk ((hb3.block w.heap.size (blk_lt HT2.out)).trans HT2.out); have HB3 := Aside0.mk (Arr.below_trans HB2.out hb3); clear hb3 z0 z1 z2 y0 y1 y2; obtain ⟨z0, z1, z2⟩ : w3.cell? ⟨w.heap.size, 0, none⟩ = some (.int .u32 0) ∧ w3.cell? ⟨w.heap.size, 1, none⟩ = some (.int .u32 0) ∧ w3.cell? ⟨w.heap.size, 2, none⟩ = some (.string ⟨#[]⟩) := ⟨blk_cell HT3.out 0, blk_cell HT3.out 1, blk_cell HT3.out 2⟩; have y0 := blk_frozen HT3.out 0; have y1 := blk_frozen HT3.out 1; have y2 := blk_frozen HT3.out 2)
      have b2 := set_blk (set_blk (set_blk (set_blk (set_blk (set_blk HT3.out 0 (.int .u32 ue)) 1 (.int .u32 ui)) 2 (.string ub)) 0 (.int .u32 ue)) 1 (.int .u32 ui)) 2 (.string ub)
      refine bodyPost_ret (results_ct rfl _ _ _ _ _ _ _ rfl b2 Try.underlying75 rfl rfl) rfl ⟨?_, ?_⟩
      · rw [HF.out]; rfl
      · exact (((((HB3.out.setCell (by simp) _).setCell (by simp) _).setCell (by simp) _).setCell (by simp) _).setCell (by simp) _).setCell (by simp) _
  · have e0 : (readE d (base + i) == 0) = false := by simpa using he
    have e1 : (readE d (base + i) != 0) = true := by simpa using he
    have HF := Aside0.mk (show sreadF d (base + i) index = (0, 0, ⟨#[]⟩, false) by unfold sreadF; rw [if_pos he])
    clear he
    go_wp2
    have b2 := set_blk (set_blk (set_blk HT2.out 0 (.int .u32 0)) 1 (.int .u32 0)) 2 (.string ⟨#[]⟩)
    refine bodyPost_ret (results_ct rfl _ _ _ _ _ _ _ rfl b2 Try.underlying75 rfl rfl) rfl ⟨?_, ?_⟩
    · rw [HF.out]; rfl
    · exact ((HB2.out.setCell (by simp) _).setCell (by simp) _).setCell (by simp) _
end Go.Proofs.Ytneilimiijcghaa.St
namespace Go.Proofs.Ytneilimiijcghaa.St
open Go.Proofs.Ytneilimiijcghaa.Rgn
open Go Go.RowKit Go.ChangeMaps Go.Proofs.Ytneilimiijcghaa.Arr Go.Proofs.Ytneilimiijcghaa.Mp Go.Proofs.Ytneilimiijcghaa.Ow Go.Proofs.Ytneilimiijcghaa.Dk Go.Proofs.YtneilimiijcghaaW.PrintWords Go.Proofs.YtneilimiijcghaaW.PrintLast Go.Proofs.YtneilimiijcghaaW.PrintMore
set_option linter.unusedVariables false
set_option linter.unusedSimpArgs false
attribute [local go_sem] max2_int min2_int max_two min_two
/-- The greatest epoch of the first k sectors' slabs. -/
def latestF (d : DS) (base : Int) : Nat → Int
  | 0 => 0
  | k + 1 => if (X12.unpackF (readS d (base + k))).2.2.2 = 0 then (if latestF d base k < (X12.unpackF (readS d (base + k))).1 then (X12.unpackF (readS d (base + k))).1 else latestF d base k) else latestF d base k
theorem latest_lt (d : DS) (base : Int) (k : Nat) : 0 ≤ latestF d base k ∧ latestF d base k < 4294967296 := by
  induction k with
  | zero => unfold latestF; omega
  | succ k ih =>
    have := (unpack_lt (readS d (base + k))).1
    unfold latestF
    split
    · split <;> omega
    · omega
def secN (n : Int) : Nat := (3 + 2 * n).toNat
theorem sectors_calls (n : Int) (hn : 0 ≤ n ∧ n ≤ 1000) (w : World) : Calls Try.prog 18 #[.int .i64 n] w fun e w' => e = .returned (.int .i64 (secN n : Int)) ∧ Below w.heap.size w w' := by
  refine (X12.store_Sectors.calls n (secN n : Int) w ?_).mono fun e w' ⟨he, hd⟩ => ⟨he, hd.below⟩
  unfold X12.store_Sectors.f secN
  rw [if_neg (by omega)]
  congr 1
  unfold wrap64
  omega
set_option maxHeartbeats 4000000 in
theorem latest_calls {N : Nat} (d : DS) (g gs : Nat) (base n tk : Int) (S : Nat → Prop) (w : World) (h : SK w S gs g base n tk d) (ho : OkN N d) (hi : (0 ≤ base ∧ base ≤ 1000) ∧ 0 ≤ n ∧ n ≤ 8) :
    Calls Try.prog 33 #[.pointer (some ⟨gs, 0, none⟩)] w fun x w' => x = .returned (.int .u32 (latestF d base (secN n))) ∧ Below w.heap.size w w' := by
  have HK := Aside0.mk h; have HO := Aside0.mk ho; have HI := Aside0.mk hi
  have c2 := h.c2
  have hsn : secN n ≤ 19 := by unfold secN; omega
  have HSN := Aside0.mk hsn
  clear h ho hsn hi
  go_enter Try.func33, Try.ntmps33
  go_upto_region 2 with (go_at_call 18; (with_reducible refine (sectors_calls n (by have := HI.out; omega) _).mono ?_); rintro e w1 ⟨rfl, hb1⟩; have HK1 := Aside0.mk (HK.out.below hb1); have HB1 := Aside0.mk hb1; clear hb1)
  clear c2 HK
  go_loopw [2, 13] (fun m v wr => ∃ k : Nat, v = .int .i64 k ∧ m = .int .u32 (latestF d base k) ∧ Aside0 (k ≤ secN n) ∧ Aside0 (SK wr S gs g base n tk d) ∧ Aside0 (Below w.heap.size w wr)) (fun _ v _ => secN n - (intOf v).toNat)
  case atStart => exact ⟨0, rfl, rfl, ⟨Nat.zero_le _⟩, HK1, HB1⟩
  case round =>
    clear HK1 HB1
    obtain ⟨k, rfl, rfl, K, HK, HB⟩ := hrel
    by_cases hlt : (k : Int) < (secN n : Int)
    · have hk9 : (k : Int) < 1000 := by have := HSN.out; omega
      have HW := Aside0.mk (show wrap64 (base + k) = base + k by have := HI.out; unfold wrap64; omega)
      go_upto_region 4 with (fail)
      have HK1 := Aside0.mk HK.out.drew; have HB1 := Aside0.mk HB.out.drew
      have c0 := HK1.out.c0; have c1 := HK1.out.c1
      clear HK HB
      refine start_ (n := 16) (S := fun w' => w'.cell? ⟨gs, 0, none⟩ = some (.pointer (some ⟨g, 0, none⟩)) ∧ w'.cell? ⟨gs, 1, none⟩ = some (.int .i64 base)) (ds := []) #[false, false, false, false, false, false, false, false, false, false, false, false, false, false, false, false] (by kernel_rfl) rfl rfl ⟨c0, c1⟩ (fun hHeld => ?_)
      refine rgp 0 17 ?_
      refine rgp 1 18 ?_
      refine rgp 2 19 ?_
      refine rgp 4 21 ?_
      refine rgp 5 22 ?_
      refine rgp 6 23 ?_
      refine rgp 8 25 ?_
      refine rgt 3 20 hHeld ?_
      refine rgt 7 24 hHeld ?_
      refine rgp 9 26 ?_
      refine one_ (i := 10) (N := some 27) #[true, true, true, true, true, true, true, true, true, true, true, false, false, false, false, false] rfl rfl (by kernel_rfl) (by decide) (fun K hK => ?_)
      generalize wr.drew = X0_ at *
      refine goes_ Try.func35 (by kernel_rfl) rfl #[.pointer (some ⟨g, 0, none⟩), .int .i64 (wrap64 (base + k))] (by rfl) rfl rfl (by (try simp only [List.map_toArray, List.map_cons, List.map_nil]); first | done | rfl) ?_
      rw [HW.out]
      refine (read_calls d g (base + k) S _ HK1.out.dk HO.out.ok).mono ?_
      rintro e v1_ ⟨rfl, hb1⟩
      refine ⟨_, rfl, ?_⟩
      have HK2 := Aside0.mk (HK1.out.below hb1); have HB2 := Aside0.mk (Arr.below_trans HB1.out hb1)
      clear hb1 HK1 HB1
      refine hK _ _ ⟨HK2.out.c0, HK2.out.c1⟩ (fun hHeld => ?_)
      clear hK K
      refine norm_ (a' := ?_) ?_ ?_
      rotate_left
      · show Act.put _ (some 27) _ = _
        simp only [Act.put, List.setIfInBounds_toArray, List.set_cons_zero, List.set_cons_succ, i64_w, i32_w]
        rfl
      refine rgp 11 16 ?_
      refine rgp 12 28 ?_
      refine rgp 13 29 ?_
      refine rgp 14 4 ?_
      refine rgp 15 5 ?_
      refine done_ (by kernel_rfl) ?_
      clear hHeld c0 c1
      obtain ⟨ue, ui, ub, ur, hu⟩ : ∃ a b c e, X12.unpackF (readS d (base + k)) = (a, b, c, e) := ⟨_, _, _, _, rfl⟩
      have HU := Aside0.mk hu
      have HL := Aside0.mk (show latestF d base (k + 1) = if ur = 0 then (if latestF d base k < ue then ue else latestF d base k) else latestF d base k by show (if (X12.unpackF (readS d (base + k))).2.2.2 = 0 then _ else _) = _; rw [hu])
      clear hu
      go_upto_region 6 with (go_at_call 45; (with_reducible refine (X12.unpack_calls (readS d (base + k)) _).mono ?_); rintro e w3 ⟨rfl, hb3⟩; rw [HU.out]; have HK3 := Aside0.mk (HK2.out.below hb3); have HB3 := Aside0.mk (Arr.below_trans HB2.out hb3); clear hb3)
      have HA := Aside0.mk (heap_alloc_new w3 (.cells #[.int .u32 ue, .int .u32 ui, .string ub] TB7))
      have hba := (Below.refl w3.heap.size w3).alloc (Nat.le_refl _) (.cells #[.int .u32 ue, .int .u32 ui, .string ub] TB7)
      have HK4 := Aside0.mk (HK3.out.below hba); have HB4 := Aside0.mk (Arr.below_trans HB3.out hba)
      clear hba HK3 HB3 HK2 HB2
      generalize w3.alloc (.cells #[.int .u32 ue, .int .u32 ui, .string ub] TB7) = w4 at *
      have z0 : w4.cell? ⟨w3.heap.size, 0, none⟩ = some (.int .u32 ue) := blk_cell HA.out 0
      by_cases a1 : ur = 0
      · have b1 : (ur == 0) = true := by simpa using a1
        have HL2 := Aside0.mk (show latestF d base (k + 1) = (if latestF d base k < ue then ue else latestF d base k) by rw [HL.out, if_pos a1])
        clear a1
        go_wp2
        go_roundw
        case rel => exact ⟨k + 1, by go_num, by rw [HL2.out], ⟨by omega⟩, HK4, HB4⟩
        case measure => simp [intOf]; omega
      · have b1 : (ur == 0) = false := by simpa using a1
        have HL2 := Aside0.mk (show latestF d base (k + 1) = latestF d base k by rw [HL.out, if_neg a1])
        clear a1
        go_wp2
        go_roundw
        case rel => exact ⟨k + 1, by go_num, by rw [HL2.out], ⟨by omega⟩, HK4, HB4⟩
        case measure => simp [intOf]; omega
    · obtain rfl : k = secN n := by have := K.out; omega
      go_wp2
      go_ret
      exact ⟨rfl, HB.out⟩
end Go.Proofs.Ytneilimiijcghaa.St
namespace Go.Proofs.Ytneilimiijcghaa.St
open Go Go.RowKit Go.ChangeMaps Go.Proofs.Ytneilimiijcghaa.Arr Go.Proofs.Ytneilimiijcghaa.Mp Go.Proofs.Ytneilimiijcghaa.Ow Go.Proofs.Ytneilimiijcghaa.Dk Go.Proofs.YtneilimiijcghaaW.PrintWords Go.Proofs.YtneilimiijcghaaW.PrintLast Go.Proofs.YtneilimiijcghaaW.PrintMore
set_option linter.unusedVariables false
set_option linter.unusedSimpArgs false
/-- What the journal's head says: the ticket, the page. -/
def headF (d : DS) (base n : Int) : Option (Int × Int) :=
  if (sreadF d (base + 2) 2).2.2.2 = true ∧ (sreadF d (base + 2) 2).2.2.1.size = 1 ∧ bt (sreadF d (base + 2) 2).2.2.1 0 < n then some ((sreadF d (base + 2) 2).1, bt (sreadF d (base + 2) 2).2.2.1 0) else none
/-- A copy, if it is one of that ticket. -/
def partF (d : DS) (base e : Int) (k : Int) : Option ByteArray :=
  if (sreadF d (base + k) k).2.2.2 = true ∧ (sreadF d (base + k) k).1 = e ∧ (sreadF d (base + k) k).2.2.1.size = 112 then some (sreadF d (base + k) k).2.2.1 else none
def repairS (base n : Int) : Step := fun d =>
  match headF d base n with
  | none => (0, d)
  | some h => match partF d base h.1 0 with
    | none => (0, d)
    | some a => match partF d base h.1 1 with
      | none => (0, d)
      | some b => bothS (base + (3 + 2 * h.2)) (2 * h.2) h.1 (a ++ b) d
theorem bt_range (s : ByteArray) (i : Nat) : 0 ≤ bt s i ∧ bt s i < 256 := by
  unfold bt
  split
  · rename_i h
    have h2 : i < s.size := h
    show 0 ≤ (((s[i]'h2).toNat : Nat) : Int) ∧ (((s[i]'h2).toNat : Nat) : Int) < 256
    have := UInt8.toNat_lt (s[i]'h2)
    omega
  · omega
def Got (d : DS) (base e k : Int) (acc : ByteArray) : Prop := (k = 0 ∧ acc = ⟨#[]⟩) ∨ (k = 1 ∧ partF d base e 0 = some acc ∧ acc.size = 112) ∨ (k = 2 ∧ ∃ a b, (partF d base e 0 = some a ∧ a.size = 112 ∧ partF d base e 1 = some b ∧ b.size = 112) ∧ acc = a ++ b)
theorem emp {b : ByteArray} : (⟨#[]⟩ : ByteArray) ++ b = b := by
  apply ByteArray.ext
  simp [ByteArray.data_append]
theorem sread_lt (d : DS) (p i : Int) : 0 ≤ (sreadF d p i).1 ∧ (sreadF d p i).1 < 4294967296 := by
  unfold sreadF
  split
  · decide
  · exact (unpack_lt _).1
set_option maxHeartbeats 4000000 in
theorem repair_calls {N : Nat} (d : DS) (g gs : Nat) (base n tk : Int) (S : Nat → Prop) (w : World) (hS : Top S w) (h : SK w S gs g base n tk d) (ho : OkN N d) (hN : N < 900000) (hi : (0 ≤ base ∧ base ≤ 1000) ∧ 0 ≤ n ∧ n ≤ 8) :
    Calls Try.prog 34 #[.pointer (some ⟨gs, 0, none⟩)] w fun x w' => x = endS (repairS base n d).1 ∧ SK w' S gs g base n tk (repairS base n d).2 ∧ FS S w w' := by
  have HS := Aside0.mk hS; have HK := Aside0.mk h; have HO := Aside0.mk ho; have HN := Aside0.mk hN; have HI := Aside0.mk hi
  clear hS h ho hN hi
  obtain ⟨he, hi, hb, hk, hh⟩ : ∃ a b c e, sreadF d (base + 2) 2 = (a, b, c, e) := ⟨_, _, _, _, rfl⟩
  have HE := Aside0.mk (show 0 ≤ he ∧ he < 4294967296 by have := sread_lt d (base + 2) 2; rw [hh] at this; exact this)
  have HD := Aside0.mk (show headF d base n = if hk = true ∧ hb.size = 1 ∧ bt hb 0 < n then some (he, bt hb 0) else none by unfold headF; rw [hh])
  have HH := Aside0.mk hh
  clear hh
  go_enter Try.func34, Try.ntmps34
  go_upto_region 1 with (go_at_call 37; (with_reducible refine (sread_calls d g gs base n tk 2 2 S _ HK.out HO.out (by have := HI.out; omega)).mono ?_); rintro e w1 ⟨rfl, hb1⟩; rw [HH.out]; have HK1 := Aside0.mk (HK.out.below hb1); have HB1 := Aside0.mk hb1; clear hb1)
  have HA := Aside0.mk (heap_alloc_new w1 (.cells #[.int .u32 he, .int .u32 hi, .string hb] TB7))
  have hba := (Below.refl w1.heap.size w1).alloc (Nat.le_refl _) (.cells #[.int .u32 he, .int .u32 hi, .string hb] TB7)
  have HK2 := Aside0.mk (HK1.out.below hba); have HB2 := Aside0.mk (Arr.below_trans HB1.out hba)
  clear hba HK1 HB1
  generalize w1.alloc (.cells #[.int .u32 he, .int .u32 hi, .string hb] TB7) = W2 at *
  generalize w1.heap.size = b2 at *
  have HA3 := Aside0.mk (show W2.drew.heap[b2]? = _ from HA.out)
  have HK3 := Aside0.mk HK2.out.drew; have HB3 := Aside0.mk HB2.out.drew
  clear HA HK2 HB2
  have z2 : W2.drew.cell? ⟨b2, 2, none⟩ = some (.string hb) := blk_cell HA3.out 2
  have c2 := HK3.out.c2
  cases hk with
  | false =>
    have HR := Aside0.mk (show repairS base n d = (0, d) by unfold repairS; rw [HD.out, if_neg (by simp)])
    go_region
    go_wp2
    refine bodyPost_ret (results_none rfl _ _ _) rfl ?_
    rw [HR.out]
    exact ⟨(if_pos rfl).symm, HK3.out, (FS.refl S w).below HB3.out⟩
  | true =>
  by_cases s1 : hb.size = 1
  rotate_left
  · have HR := Aside0.mk (show repairS base n d = (0, d) by unfold repairS; rw [HD.out, if_neg (by simp [s1])])
    have s1b : ((hb.size : Int) == 1) = false := by simp; omega
    have s1c : ((hb.size : Int) != 1) = true := by simp; omega
    clear s1
    go_region
    go_wp2
    refine bodyPost_ret (results_none rfl _ _ _) rfl ?_
    rw [HR.out]
    exact ⟨(if_pos rfl).symm, HK3.out, (FS.refl S w).below HB3.out⟩
  obtain ⟨x, rfl⟩ : ∃ x : UInt8, hb = ⟨#[x]⟩ := by
    obtain ⟨l⟩ := hb
    have h1 : l.size = 1 := s1
    obtain ⟨x, hx⟩ := Array.size_eq_one_iff.1 h1
    exact ⟨x, by rw [hx]⟩
  have s0 : (⟨#[x]⟩ : ByteArray).size = 1 := rfl
  have e0 : bt (⟨#[x]⟩ : ByteArray) 0 = (x.toNat : Int) := rfl
  have hx0 : ((⟨#[x]⟩ : ByteArray)[0]'(show 0 < 1 from Nat.zero_lt_one)) = x := rfl
  have wx : wrap64 (x.toNat : Int) = (x.toNat : Int) := by have := x.toNat_lt; unfold wrap64; omega
  by_cases s2 : (x.toNat : Int) < n
  rotate_left
  · have HR := Aside0.mk (show repairS base n d = (0, d) by unfold repairS; rw [HD.out, e0, if_neg (by simp [s2])])
    have s2b : decide (n ≤ (x.toNat : Int)) = true := by rw [decide_eq_true_eq]; omega
    have s2c : (n ≤ (x.toNat : Int)) = True := by rw [eq_iff_iff, iff_true]; omega
    clear s2
    go_region
    go_wp2
    refine bodyPost_ret (results_none rfl _ _ _) rfl ?_
    rw [HR.out]
    exact ⟨(if_pos rfl).symm, HK3.out, (FS.refl S w).below HB3.out⟩
  have HD2 := Aside0.mk (show headF d base n = some (he, (x.toNat : Int)) by rw [HD.out, e0, if_pos ⟨rfl, s1, s2⟩])
  clear HD
  have HD := HD2
  clear HD2
  have HV := Aside0.mk (show 0 ≤ (x.toNat : Int) ∧ (x.toNat : Int) < n from ⟨by omega, s2⟩)
  have s2b : decide (n ≤ (x.toNat : Int)) = false := by rw [decide_eq_false_iff_not]; omega
  have s2c : (n ≤ (x.toNat : Int)) = False := by rw [eq_iff_iff, iff_false]; omega
  have HS1 := Aside0.mk s1
  clear s2 e0
  go_region
  have HKx := HK3; have HBx := HB3; have HAx := HA3
  clear HK3 HB3 HA3 z2 c2 s2b s2c HK
  generalize W2.drew = W7 at *
  go_upto_region 4 with (fail)
  go_loopw [4, 33] (fun s v wr => ∃ (k : Int) (acc : ByteArray), v = .int .i64 k ∧ s = .string acc ∧ Aside0 (Got d base he k acc) ∧ Aside0 (SK wr S gs g base n tk d) ∧ Aside0 (Below w.heap.size w wr) ∧ Aside0 (wr.heap[b2]? = some (.cells #[.int .u32 he, .int .u32 hi, .string ⟨#[x]⟩] TB7 (0, 0)))) (fun _ v _ => 2 - (intOf v).toNat)
  case atStart => exact ⟨0, _, rfl, rfl, ⟨.inl ⟨rfl, rfl⟩⟩, HKx, HBx, HAx⟩
  case round =>
      clear HKx HBx HAx
      obtain ⟨k_, acc_, rfl, rfl, HGG, HK, HB, HA⟩ := hrel
      rcases HGG.out with ⟨rfl, rfl⟩ | ⟨rfl, hg⟩ | ⟨rfl, a_, b_, hg, rfl⟩
      · obtain ⟨xe, xi, xb, xk, hx⟩ : ∃ a b c e, sreadF d (base + 0) 0 = (a, b, c, e) := ⟨_, _, _, _, rfl⟩
        have HP := Aside0.mk (show partF d base he 0 = if xk = true ∧ xe = he ∧ xb.size = 112 then some xb else none by unfold partF; rw [hx])
        have HX := Aside0.mk hx
        clear hx
        go_upto_region 7 with (go_at_call 37; (with_reducible refine (sread_calls d g gs base n tk 0 0 S _ HK.out HO.out (by have := HI.out; omega)).mono ?_); rintro e w5 ⟨rfl, hb1⟩; rw [HX.out]; have HK5 := Aside0.mk (HK.out.below hb1); have HB5 := Aside0.mk (Arr.below_trans HB.out hb1); have HA5 := Aside0.mk ((hb1.block b2 (blk_lt HA.out)).trans HA.out); clear hb1)
        have HC := Aside0.mk (heap_alloc_new w5 (.cells #[.int .u32 xe, .int .u32 xi, .string xb] TB7))
        have hba := (Below.refl w5.heap.size w5).alloc (Nat.le_refl _) (.cells #[.int .u32 xe, .int .u32 xi, .string xb] TB7)
        have HK6 := Aside0.mk (HK5.out.below hba); have HB6 := Aside0.mk (Arr.below_trans HB5.out hba); have HA6 := Aside0.mk ((hba.block b2 (blk_lt HA5.out)).trans HA5.out)
        clear hba HK5 HB5 HA5 HK HB HA
        generalize w5.alloc (.cells #[.int .u32 xe, .int .u32 xi, .string xb] TB7) = W6 at *
        generalize w5.heap.size = b6 at *
        have y0 : W6.cell? ⟨b6, 0, none⟩ = some (.int .u32 xe) := blk_cell HC.out 0
        have y2 : W6.cell? ⟨b6, 2, none⟩ = some (.string xb) := blk_cell HC.out 2
        have z0 : W6.cell? ⟨b2, 0, none⟩ = some (.int .u32 he) := blk_cell HA6.out 0
        cases xk with
        | false =>
          have HR := Aside0.mk (show repairS base n d = (0, d) by unfold repairS; rw [HD.out]; simp only; rw [HP.out, if_neg (by simp_all)])
          go_wp2
          refine bodyPost_ret (results_none rfl _ _ _) rfl ?_
          rw [HR.out]
          exact ⟨(if_pos rfl).symm, HK6.out, (FS.refl S w).below HB6.out⟩
        | true =>
        by_cases q1 : xe = he
        rotate_left
        · have HR := Aside0.mk (show repairS base n d = (0, d) by unfold repairS; rw [HD.out]; simp only; rw [HP.out, if_neg (by simp_all)])
          have q1b : (xe == he) = false := by simpa using q1
          have q1c : (xe != he) = true := by simpa using q1
          clear q1
          go_wp2
          refine bodyPost_ret (results_none rfl _ _ _) rfl ?_
          rw [HR.out]
          exact ⟨(if_pos rfl).symm, HK6.out, (FS.refl S w).below HB6.out⟩
        by_cases q2 : xb.size = 112
        rotate_left
        · have HR := Aside0.mk (show repairS base n d = (0, d) by unfold repairS; rw [HD.out]; simp only; rw [HP.out, if_neg (by simp_all)])
          have q1b : (xe == he) = true := by simpa using q1
          have q1c : (xe != he) = false := by simpa using q1
          have q2b : ((xb.size : Int) == 112) = false := by simp; omega
          have q2c : ((xb.size : Int) != 112) = true := by simp; omega
          clear q1 q2
          go_wp2
          refine bodyPost_ret (results_none rfl _ _ _) rfl ?_
          rw [HR.out]
          exact ⟨(if_pos rfl).symm, HK6.out, (FS.refl S w).below HB6.out⟩
        have HP2 := Aside0.mk (show partF d base he 0 = some xb by rw [HP.out, if_pos ⟨rfl, q1, q2⟩])
        have q1b : (xe == he) = true := by simpa using q1
        have q1c : (xe != he) = false := by simpa using q1
        have HS2 := Aside0.mk q2
        clear q1
        go_wp2
        go_roundw
        case rel => exact ⟨_, _, _, _, _, ⟨1, rfl, _, rfl, ⟨.inr (.inl ⟨rfl, by rw [emp]; exact HP2.out, by rw [emp]; exact HS2.out⟩)⟩⟩, rfl, rfl, rfl, rfl, rfl⟩
        case measure => simp [intOf]
      · have HG := Aside0.mk hg; clear hg HGG
        obtain ⟨xe, xi, xb, xk, hx⟩ : ∃ a b c e, sreadF d (base + 1) 1 = (a, b, c, e) := ⟨_, _, _, _, rfl⟩
        have HP := Aside0.mk (show partF d base he 1 = if xk = true ∧ xe = he ∧ xb.size = 112 then some xb else none by unfold partF; rw [hx])
        have HX := Aside0.mk hx
        clear hx
        go_upto_region 7 with (go_at_call 37; (with_reducible refine (sread_calls d g gs base n tk 1 1 S _ HK.out HO.out (by have := HI.out; omega)).mono ?_); rintro e w5 ⟨rfl, hb1⟩; rw [HX.out]; have HK5 := Aside0.mk (HK.out.below hb1); have HB5 := Aside0.mk (Arr.below_trans HB.out hb1); have HA5 := Aside0.mk ((hb1.block b2 (blk_lt HA.out)).trans HA.out); clear hb1)
        have HC := Aside0.mk (heap_alloc_new w5 (.cells #[.int .u32 xe, .int .u32 xi, .string xb] TB7))
        have hba := (Below.refl w5.heap.size w5).alloc (Nat.le_refl _) (.cells #[.int .u32 xe, .int .u32 xi, .string xb] TB7)
        have HK6 := Aside0.mk (HK5.out.below hba); have HB6 := Aside0.mk (Arr.below_trans HB5.out hba); have HA6 := Aside0.mk ((hba.block b2 (blk_lt HA5.out)).trans HA5.out)
        clear hba HK5 HB5 HA5 HK HB HA
        generalize w5.alloc (.cells #[.int .u32 xe, .int .u32 xi, .string xb] TB7) = W6 at *
        generalize w5.heap.size = b6 at *
        have y0 : W6.cell? ⟨b6, 0, none⟩ = some (.int .u32 xe) := blk_cell HC.out 0
        have y2 : W6.cell? ⟨b6, 2, none⟩ = some (.string xb) := blk_cell HC.out 2
        have z0 : W6.cell? ⟨b2, 0, none⟩ = some (.int .u32 he) := blk_cell HA6.out 0
        cases xk with
        | false =>
          have HR := Aside0.mk (show repairS base n d = (0, d) by unfold repairS; rw [HD.out]; simp only; rw [HG.out.1]; simp only; rw [HP.out, if_neg (by simp_all)])
          go_wp2
          refine bodyPost_ret (results_none rfl _ _ _) rfl ?_
          rw [HR.out]
          exact ⟨(if_pos rfl).symm, HK6.out, (FS.refl S w).below HB6.out⟩
        | true =>
        by_cases q1 : xe = he
        rotate_left
        · have HR := Aside0.mk (show repairS base n d = (0, d) by unfold repairS; rw [HD.out]; simp only; rw [HG.out.1]; simp only; rw [HP.out, if_neg (by simp_all)])
          have q1b : (xe == he) = false := by simpa using q1
          have q1c : (xe != he) = true := by simpa using q1
          clear q1
          go_wp2
          refine bodyPost_ret (results_none rfl _ _ _) rfl ?_
          rw [HR.out]
          exact ⟨(if_pos rfl).symm, HK6.out, (FS.refl S w).below HB6.out⟩
        by_cases q2 : xb.size = 112
        rotate_left
        · have HR := Aside0.mk (show repairS base n d = (0, d) by unfold repairS; rw [HD.out]; simp only; rw [HG.out.1]; simp only; rw [HP.out, if_neg (by simp_all)])
          have q1b : (xe == he) = true := by simpa using q1
          have q1c : (xe != he) = false := by simpa using q1
          have q2b : ((xb.size : Int) == 112) = false := by simp; omega
          have q2c : ((xb.size : Int) != 112) = true := by simp; omega
          clear q1 q2
          go_wp2
          refine bodyPost_ret (results_none rfl _ _ _) rfl ?_
          rw [HR.out]
          exact ⟨(if_pos rfl).symm, HK6.out, (FS.refl S w).below HB6.out⟩
        have HP2 := Aside0.mk (show partF d base he 1 = some xb by rw [HP.out, if_pos ⟨rfl, q1, q2⟩])
        have q1b : (xe == he) = true := by simpa using q1
        have q1c : (xe != he) = false := by simpa using q1
        have HS2 := Aside0.mk q2
        clear q1
        have za := HG.out.2
        go_wp2
        go_roundw
        case rel => exact ⟨_, _, _, _, _, ⟨2, rfl, _, rfl, ⟨.inr (.inr ⟨rfl, _, xb, ⟨HG.out.1, HG.out.2, HP2.out, HS2.out⟩, rfl⟩)⟩⟩, rfl, rfl, rfl, rfl, rfl⟩
        case measure => simp [intOf]
      · have HG := Aside0.mk hg; clear hg HGG
        have z0 : wr.cell? ⟨b2, 0, none⟩ = some (.int .u32 he) := blk_cell HA.out 0
        have z2 : wr.cell? ⟨b2, 2, none⟩ = some (.string ⟨#[x]⟩) := blk_cell HA.out 2
        have u1 : wrap64 (2 * (x.toNat : Int)) = 2 * (x.toNat : Int) := by have := HV.out; have := HI.out; unfold wrap64; omega
        have u2 : wrap64 (3 + 2 * (x.toNat : Int)) = 3 + 2 * (x.toNat : Int) := by have := HV.out; have := HI.out; unfold wrap64; omega
        have HR := Aside0.mk (show repairS base n d = bothS (base + (3 + 2 * (x.toNat : Int))) (2 * (x.toNat : Int)) he (a_ ++ b_) d by unfold repairS; rw [HD.out]; simp only; rw [HG.out.1]; simp only; rw [HG.out.2.2.1])
        have HBC := Aside0.mk (both_calls d g gs base n tk (3 + 2 * (x.toNat : Int)) (2 * (x.toNat : Int)) he (a_ ++ b_) S wr (HS.out.next HB.out.size) HK.out HO.out (by have := HV.out; have := HI.out; omega) (by have := HV.out; have := HI.out; omega) HE.out HN.out (by rw [ByteArray.size_append, HG.out.2.1, HG.out.2.2.2]))
        by_cases e : (bothS (base + (3 + 2 * (x.toNat : Int))) (2 * (x.toNat : Int)) he (a_ ++ b_) d).1 = 0
        · have EN := Aside0.mk (show endS (bothS (base + (3 + 2 * (x.toNat : Int))) (2 * (x.toNat : Int)) he (a_ ++ b_) d).1 = .returned (.tuple #[]) from if_pos e)
          clear e
          go_wp2_with (go_at_call 27; (with_reducible refine HBC.out.mono ?_); rintro e w8 ⟨hx, hk, hf⟩; rw [EN.out] at hx; subst hx)
          go_end0
          rw [HR.out]
          exact ⟨EN.out.symm, hk, ((FS.refl S w).below HB.out).trans hf⟩
        · have EN := Aside0.mk (show endS (bothS (base + (3 + 2 * (x.toNat : Int))) (2 * (x.toNat : Int)) he (a_ ++ b_) d).1 = gaveUp (bothS (base + (3 + 2 * (x.toNat : Int))) (2 * (x.toNat : Int)) he (a_ ++ b_) d).1 from if_neg e)
          clear e
          go_wp2_with (go_at_call 27; (with_reducible refine HBC.out.mono ?_); rintro e w8 ⟨hx, hk, hf⟩; rw [EN.out] at hx; subst hx)
          refine ⟨rfl, ?_⟩
          rw [HR.out]
          exact ⟨EN.out.symm, hk, ((FS.refl S w).below HB.out).trans hf⟩
end Go.Proofs.Ytneilimiijcghaa.St
namespace Go.Proofs.Ytneilimiijcghaa.X12
open Go Go.RowKit Go.Proofs.YtneilimiijcghaaW.PrintWords Go.Proofs.Ytneilimiijcghaa.Page Go.Proofs.Ytneilimiijcghaa.Arr
set_option linter.unusedVariables false
set_option linter.unusedSimpArgs false
theorem right_eq (a : Int) (b : ByteArray) : page_Right.f a b = some (decide (0 ≤ a ∧ a ≤ 2147483647 ∧ b.size = 220)) := by
  unfold page_Right.f
  by_cases h0 : a ≥ 0
  · by_cases h1 : a ≤ 2147483647
    · rw [if_pos h0, if_pos h1]
      congr 1
      rw [Bool.eq_iff_iff]; simp only [beq_iff_eq, decide_eq_true_eq]; omega
    · rw [if_pos h0, if_neg h1]; congr 1; symm; simp; omega
  · rw [if_neg h0]; congr 1; symm; simp; omega
theorem or_join (x y : Int) (h0 : 0 ≤ x) (h1 : x < 16777216) (h2 : 0 ≤ y) (h3 : y < 256) : bits .or .i64 (x * 256) y = x * 256 + y :=
  bits_join .i64 40 (by decide) (fun n a b => by rw [IntKind.wrap_i64]; omega) 8 (x * 256) y (by omega) (by omega) (by omega) h2 (by omega) (by omega)
/-- Four bytes as a number, the highest first. -/
def punF (s : ByteArray) : Int × ByteArray × Int :=
  if s.size = 224 ∧ numB s ≤ 2147483647 then (numB s, s.extract 4 s.size, 0) else (0, ⟨#[]⟩, 3)
theorem ptail_size (s : ByteArray) (h : s.size = 224) : (s.extract 4 s.size).size = 220 := by rw [ByteArray.size_extract]; omega
theorem punpack_eq (k : Nat) (s : ByteArray) : page_Unpack.f (k + 5) s = some (punF s) := by
  unfold page_Unpack.f punF
  by_cases hs : s.size = 224
  · rw [if_pos (by omega), if_pos (by omega)]
    have a := bt_range s 0; have b := bt_range s 1; have c := bt_range s 2; have d := bt_range s 3
    have hn := numB_range s
    have ht := ptail_size s hs
    have e0 : bits .or .i64 (wrap64 (0 * 256)) (wrap64 (bt s 0)) = bt s 0 := by
      rw [w64 (by omega) (by omega), w64 (by omega) (by omega), or_join 0 _ (by omega) (by omega) (by omega) (by omega)]; omega
    have e1 : bits .or .i64 (wrap64 (bt s 0 * 256)) (wrap64 (bt s 1)) = bt s 0 * 256 + bt s 1 := by
      rw [w64 (by omega) (by omega), w64 (by omega) (by omega), or_join _ _ (by omega) (by omega) (by omega) (by omega)]
    have e2 : bits .or .i64 (wrap64 ((bt s 0 * 256 + bt s 1) * 256)) (wrap64 (bt s 2)) = (bt s 0 * 256 + bt s 1) * 256 + bt s 2 := by
      rw [w64 (by omega) (by omega), w64 (by omega) (by omega), or_join _ _ (by omega) (by omega) (by omega) (by omega)]
    have e3 : bits .or .i64 (wrap64 (((bt s 0 * 256 + bt s 1) * 256 + bt s 2) * 256)) (wrap64 (bt s 3)) = numB s := by
      rw [w64 (by omega) (by omega), w64 (by omega) (by omega), or_join _ _ (by omega) (by omega) (by omega) (by omega)]; rfl
    have i1 : wrap64 (0 + 1) = 1 := by unfold wrap64; omega
    have i2 : wrap64 (1 + 1) = 2 := by unfold wrap64; omega
    have i3 : wrap64 (2 + 1) = 3 := by unfold wrap64; omega
    have i4 : wrap64 (3 + 1) = 4 := by unfold wrap64; omega
    have fin : page_Unpack.l0 (k + 1) s 4 (numB s) (s.extract 4 s.size) = some (if s.size = 224 ∧ numB s ≤ 2147483647 then (numB s, s.extract 4 s.size, 0) else (0, ⟨#[]⟩, 3)) := by
      rw [page_Unpack.l0, if_neg (by omega), right_eq]
      simp only [Option.bind_some]
      by_cases h : numB s ≤ 2147483647
      · rw [if_pos (by simp only [decide_eq_true_eq]; omega), if_pos (by omega)]
      · rw [if_neg (by simp only [decide_eq_true_eq]; omega), if_neg (by omega)]
    rw [page_Unpack.l0, if_pos (by omega), if_pos (by omega), if_pos (by omega), i1, e0]
    rw [page_Unpack.l0, if_pos (by omega), if_pos (by omega), if_pos (by omega), i2, e1]
    rw [page_Unpack.l0, if_pos (by omega), if_pos (by omega), if_pos (by omega), i3, e2]
    rw [page_Unpack.l0, if_pos (by omega), if_pos (by omega), if_pos (by omega), i4, e3]
    exact fin
  · rw [if_neg (by omega), if_neg (by omega)]
/-- Four bytes of a number. -/
def four (a : Int) : ByteArray := ⟨#[be a 0, be a 1, be a 2, be a 3]⟩
theorem pack_cat (p0 : Int) (p1 : ByteArray) (h : p1.size = 220) : splice (laid (noughts 224) p0 4) 4 p1 = four p0 ++ p1 := by
  apply ByteArray.ext
  apply Array.toList_inj.1
  have e : (noughts 224).data.toList = 0 :: 0 :: 0 :: 0 :: List.replicate 220 (0 : UInt8) := by rfl
  have l : (laid (noughts 224) p0 4).data.toList = be p0 0 :: be p0 1 :: be p0 2 :: be p0 3 :: List.replicate 220 (0 : UInt8) := by
    simp only [laid, setB, Array.toList_setIfInBounds, e, List.set_cons_zero, List.set_cons_succ]
  have r : (four p0 ++ p1).data.toList = [be p0 0, be p0 1, be p0 2, be p0 3] ++ p1.data.toList := by rw [ByteArray.data_append, Array.toList_append]; rfl
  rw [r]
  simp only [splice, l, h]
  have z : List.drop (4 + 220) (be p0 0 :: be p0 1 :: be p0 2 :: be p0 3 :: List.replicate 220 (0 : UInt8)) = [] := List.drop_of_length_le (by simp only [List.length_cons, List.length_replicate]; omega)
  rw [z, List.append_nil]
  rfl
theorem cat_list (p0 : Int) (p1 : ByteArray) : (four p0 ++ p1).data.toList = be p0 0 :: be p0 1 :: be p0 2 :: be p0 3 :: p1.data.toList := by rw [ByteArray.data_append, Array.toList_append]; rfl
theorem bt_get (s : ByteArray) (i : Nat) (b : UInt8) (h : s.data.toList[i]? = some b) : bt s (i : Int) = (b.toNat : Int) := by
  have hl : i < s.data.toList.length := (List.getElem?_eq_some_iff.1 h).1
  have hs : i < s.size := by simpa using hl
  unfold bt
  rw [dif_pos (by simpa using hs)]
  have e := (List.getElem?_eq_some_iff.1 h).2
  rw [← e]
  simp [ByteArray.getElem_eq_getElem_data]
theorem be_nat (a : Int) (i : Nat) : ((be a i).toNat : Int) = (a / 2 ^ (24 - 8 * i)) % 256 := by
  unfold be
  rw [UInt8.toNat_ofNat']
  have : 0 ≤ (a / 2 ^ (24 - 8 * i)) % 256 ∧ (a / 2 ^ (24 - 8 * i)) % 256 < 256 := by omega
  omega
theorem numB_cat (p0 : Int) (p1 : ByteArray) (h0 : 0 ≤ p0) (h1 : p0 ≤ 2147483647) : numB (four p0 ++ p1) = p0 := by
  have l := cat_list p0 p1
  have a := bt_get _ 0 _ (by rw [l]; rfl)
  have b := bt_get _ 1 _ (by rw [l]; rfl)
  have c := bt_get _ 2 _ (by rw [l]; rfl)
  have d := bt_get _ 3 _ (by rw [l]; rfl)
  rw [be_nat] at a b c d
  unfold numB
  have a' : bt (four p0 ++ p1) 0 = p0 / 16777216 % 256 := a
  have b' : bt (four p0 ++ p1) 1 = p0 / 65536 % 256 := b
  have c' : bt (four p0 ++ p1) 2 = p0 / 256 % 256 := c
  have d' : bt (four p0 ++ p1) 3 = p0 / 1 % 256 := d
  rw [a', b', c', d']
  omega
theorem unpack_cat (p0 : Int) (p1 : ByteArray) (h : p1.size = 220) (h0 : 0 ≤ p0) (h1 : p0 ≤ 2147483647) : punF (four p0 ++ p1) = (p0, p1, 0) := by
  have sz : (four p0 ++ p1).size = 224 := by rw [ByteArray.size_append, h]; rfl
  have t : (four p0 ++ p1).extract 4 (four p0 ++ p1).size = p1 := by
    apply ByteArray.ext
    apply Array.toList_inj.1
    have e : ∀ (s : ByteArray) (a b : Nat), (s.extract a b).data.toList = (s.data.toList.drop a).take (b - a) := fun s a b => by simp
    rw [e, cat_list, sz]
    have q : p1.data.toList.length = 220 := by simpa using h
    simp only [List.drop_succ_cons, List.drop_zero]
    exact List.take_of_length_le (by omega)
  unfold punF
  rw [numB_cat p0 p1 h0 h1, if_pos ⟨sz, h1⟩, t]
theorem punpack_calls (s : ByteArray) (w : World) : Calls Try.prog 38 #[.string s] w fun e w' => e = .returned (.tuple #[.agg #[.int .i64 (punF s).1, .string (punF s).2.1], .int .i64 (punF s).2.2]) ∧ Below w.heap.size w w' :=
  page_Unpack.calls 5 s _ _ _ w (punpack_eq 0 s)
theorem pun_pack {a : Int} {dta : ByteArray} (h : (Page.packF a dta).2 = 0) : punF (Page.packF a dta).1 = (a, dta, 0) := by
  unfold Page.packF at h ⊢
  split
  · rename_i c
    simp only
    rw [pack_cat a dta c.2.2]
    exact unpack_cat a dta c.2.2 c.1 c.2.1
  · rename_i c
    rw [if_neg c] at h
    cases h
end Go.Proofs.Ytneilimiijcghaa.X12
