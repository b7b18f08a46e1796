/- For every slab, the law SlabPacks returns true: it has the sector that the document says, or none, and is unpacked as it was; any bytes have their sum. No condition. -/
import Derived.Test.YtigfeafenjfdlaaX1RowSlabPacks
import Derived.Test.YtigfeafenjfdlaaPure1b
namespace Go.Proofs.Ytigfeafenjfdlaa.X1
open Go Go.RowKit Go.Proofs.YtigfeafenjfdlaaW.PrintWords Go.Proofs.Ytigfeafenjfdlaa.Slab
theorem unpack_ev' (s : ByteArray) : Ev (fun k => slab_Unpack.f k s) (unpackF s) := Ev.of (slab_Unpack.mono s) (unpack_eq 0 s)
theorem wf32' {x : Int} (h : (Lit.int .u32 x).wf = true) : 0 ≤ x ∧ x < 4294967296 := by
  simp only [Lit.wf, Bool.and_eq_true, decide_eq_true_eq] at h
  have h2 : IntKind.u32.min ≤ x ∧ x ≤ IntKind.u32.max := h
  simp only [show IntKind.u32.min = 0 from rfl, show IntKind.u32.max = 4294967295 from rfl] at h2
  omega
/-- A packed sector is read as it was. -/
theorem unpack_pack (e i : Int) (b s : ByteArray) (he : 0 ≤ e ∧ e < 4294967296) (hi : 0 ≤ i ∧ i < 4294967296) (hb : b.size ≤ 112) (h : bl s = secL e i (bl b)) : unpackF s = (e, i, b, 0) := by
  have hbl : (bl b).length ≤ 112 := by rw [bl_len]; exact hb
  have hs : s.size = 128 := by rw [← bl_len, h, secL_len e i _ hbl]
  have r := read_sec e i (bl b) he hi hbl
  rw [← h] at r
  unfold readL at r
  simp only [Prod.mk.injEq] at r
  have g8 : (bl s).getD 8 0 = 0 := by
    rw [h]; rfl
  have g9 : (bl s).getD 9 0 = UInt8.ofNat (bl b).length := by
    rw [h]; rfl
  have t8 := bt_bl s 8 (by omega)
  have t9 := bt_bl s 9 (by omega)
  rw [g8] at t8
  rw [g9, bl_len, UInt8.toNat_ofNat'] at t9
  have hL : lenS s = b.size := by
    unfold lenS
    rw [show bt s 8 = _ from t8, show bt s 9 = _ from t9]
    simp; omega
  have eE : nE s = e := by unfold nE; rw [numB_bl s (by omega)]; exact r.1
  have eI : nI s = i := by unfold nI; rw [numB_cut s 4 s.size (by omega) (by omega)]; exact r.2.1
  have eB : cutB s = b := by
    apply bl_ext
    unfold cutB
    rw [bl_cut, hL]
    have q := r.2.2
    rw [g9, bl_len, UInt8.toNat_ofNat', show b.size % 2 ^ 8 = b.size by omega] at q
    rw [show 12 + (b.size : Int).toNat - 12 = b.size by omega]
    exact q
  have hS : isSec s := ⟨hs, by omega, by rw [eE, eI, eB, h]⟩
  unfold unpackF
  rw [if_pos hS, eE, eI, eB]
theorem packs_ev (e i : Int) (b : ByteArray) (he : 0 ≤ e ∧ e < 4294967296) (hi : 0 ≤ i ∧ i < 4294967296) (hs : b.size ≤ 140737488351232) : Ev (fun k => careenlaw01_SlabPacks.f k e i b) true := by
  refine Ev.congr (f := fun k => careenlaw01_SlabPacks.j0 k (decide ((b.size : Int) > 1000)) e i b) (fun k => ?_) ?_
  · unfold careenlaw01_SlabPacks.f
    rw [awake_eq]
    rfl
  · cases decide ((b.size : Int) > 1000) with
    | true => exact Ev.step (f := fun _ => some true) (fun k => rfl) (Ev.now _)
    | false =>
      have hsum : slab_Sum.f b = some (n32 (crc b)) := if_pos (by omega)
      have href : careenref01_Sum.f b = some (n32 (crc b)) := if_pos (by omega)
      by_cases hb : b.size ≤ 112
      · obtain ⟨p, q⟩ := packI_bl e i b he hi hb
        have hu := unpack_ev' (packI e i b).1
        rw [unpack_pack e i b _ he hi hb p] at hu
        refine Ev.step (f := fun k => (slab_Unpack.f k (packI e i b).1).bind fun bt183 => (careenref01_Pack.f k e i b).bind fun t188 => (if (packI e i b).1.toList = t188.toList then (if bt183.2.2.2 = 0 then (some (e == bt183.1 && (i == bt183.2.1 && (b.toList == bt183.2.2.1.toList)))) else (some false)) else (some false))) (fun k => ?_) ?_
        · rw [careenlaw01_SlabPacks.j0, if_neg (by decide), pack_eq e i b he hi, hsum, href]
          simp only [Option.bind_some]
          rw [if_pos trivial, if_neg (by omega)]
          simp only [q, if_true]
        · refine Ev.bind hu (Ev.bind (refpack_ev e i b he hi hb) ?_)
          rw [toList_bl, toList_bl, bl_mk, p]
          simp
          exact Ev.now _
      · refine Ev.step (f := fun _ => some true) (fun k => ?_) (Ev.now _)
        rw [careenlaw01_SlabPacks.j0, if_neg (by decide), pack_eq e i b he hi, hsum, href, packI_no e i b hb]
        simp only [Option.bind_some]
        rw [if_pos trivial, if_pos (by omega), toList_bl]
        rfl
theorem SlabPacks : RowSlabPacks.Pure := by
  intro x hx
  exact (packs_ev _ _ _ (wf32' hx.1) (wf32' hx.2.1) hx.2.2).rounds
theorem slabPacks_holds : Rows.SlabPacksSaid := RowSlabPacks.holds SlabPacks
end Go.Proofs.Ytigfeafenjfdlaa.X1
